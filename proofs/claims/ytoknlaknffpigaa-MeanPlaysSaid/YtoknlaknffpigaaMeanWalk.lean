/- The walks of a heap of counts (layer 17): a new one, a count put in, its length, its mean, all taken out. -/
import Derived.Test.YtoknlaknffpigaaPureMeanOf
import Derived.Test.YtoknlaknffpigaaPMeanPlaysx1
import Derived.RangeFuncBox
import Derived.Outline
namespace Go.Proofs.Ytoknlaknffpigaa.Mw
open Go.RowKit Go.Proofs.YtoknlaknffpigaaW.PrintWords Go.Proofs.YtoknlaknffpigaaW.PrintLast Go.Proofs.YtoknlaknffpigaaW.PrintMore

def HeapAt (w : World) (g : Nat) (v : Value) : Prop := w.heap[g]? = some (.cells #[v] 92 (0, 0))

theorem new_any (w : World) : Calls Try.prog 27 #[] w fun e w' => e = .returned (.pointer (some ⟨w.heap.size, 0, none⟩)) ∧ HeapAt w' w.heap.size (.slice none 0 0) ∧ Below w.heap.size w w' := by
  go_enter Try.func27, Try.ntmps27
  go_wp2
  go_ret
  exact ⟨rfl, blk_new _ _, below_alloc (Below.refl _ _) _⟩

theorem len_any (w : World) (g : Nat) (A : Option Addr) (n c : Nat) (h : HeapAt w g (.slice A n c)) : Calls Try.prog 32 #[.pointer (some ⟨g, 0, none⟩)] w fun e w' => e = .returned (.int .i64 n) ∧ w = w' := by
  have h3 : w.cell? ⟨g, 0, none⟩ = some (.slice A n c) := (blk_cell h 0).trans rfl
  go_enter Try.func32, Try.ntmps32
  go_wp2
  go_ret
  exact ⟨rfl, rfl⟩

theorem clear_any (w : World) (g : Nat) (A : Option Addr) (n c : Nat) (h : HeapAt w g (.slice A n c)) : Calls Try.prog 28 #[.pointer (some ⟨g, 0, none⟩)] w fun e w' => e = .returned (.tuple #[]) ∧ w' = w.setCell ⟨g, 0, none⟩ (.slice none 0 0) := by
  have h3 : w.cell? ⟨g, 0, none⟩ = some (.slice A n c) := (blk_cell h 0).trans rfl
  have f3 := blk_frozen h 0
  go_enter Try.func28, Try.ntmps28
  go_wp2
  go_end0
  exact ⟨rfl, rfl⟩

/-- What a mean comes to. -/
def mres (l : List Int) : Int × Int := if l = [] then (0, 4) else if Pure.Mo.allG l then (l.sum / (l.length : Int), 0) else (0, 2)

theorem mean_any (w : World) (g base : Nat) (ok : Nat → Prop) (v : Value) (l : List Int) (h : HeapAt w g v) (hr : Kd.R (Kd.int .i64) 2 w base ok v l) (hl : l.length ≤ 1000) :
    Calls Try.prog 31 #[.pointer (some ⟨g, 0, none⟩)] w fun e w' => e = .returned (.tuple #[.int .i64 (mres l).1, .int .i64 (mres l).2]) ∧ Drawn0 w w' := by
  obtain ⟨A, c, rfl, hc, hC⟩ := Kd.R_reads hr
  have HC := Aside0.mk hC
  have h3 : w.cell? ⟨g, 0, none⟩ = some (.slice A l.length c) := (blk_cell h 0).trans rfl
  have HM := Aside0.mk (show PMeanOf.mean_Of.f (l.length + 1) l = some ((mres l).1, (mres l).2) from Pure.Mo.of_tells l (by omega) _ (by omega))
  clear hC hr
  go_enter Try.func31, Try.ntmps31
  go_wp2_with (first | (go_at_call 16; refine (PMeanOf.mean_Of.calls _ A c l (mres l).1 (mres l).2 _ HC.out hc HM.out).mono ?_; rintro e w1 ⟨rfl, ⟨n, rfl⟩⟩))
  go_ret2
  exact ⟨rfl, (Drawn0.refl _).step _⟩

/-- A count put in: the counts then, whether there are 16, the error's number. -/
def ad (l : List Int) (n : Int) : List Int × Bool × Int := if Pure.Mo.ok n = true then (if 15 < l.length then (l, false, 7) else (l ++ [n], ((l.length : Int) + 1 == 16), 0)) else (l, false, 2)

def AddPost (w0 w : World) (g : Nat) (v : Value) (r : List Int × Bool × Int) (e : Ending) (w' : World) : Prop :=
  ∃ v' : Value, e = .returned (.tuple #[.bool r.2.1, .int .i64 r.2.2]) ∧ HeapAt w' g v' ∧ Kd.R (Kd.int .i64) 2 w' w0.heap.size (fun _ => True) v' r.1 ∧ Below w0.heap.size w0 w' ∧ Kept w w' (fun k => k = g ∨ v.ownBlock = some k) ∧
    (v'.ownBlock = v.ownBlock ∨ ∃ b, v'.ownBlock = some b ∧ w.heap.size ≤ b)

theorem good_calls (w : World) (n : Int) : Calls Try.prog 18 #[.int .i64 n] w fun e w' => e = .returned (.bool (Pure.Mo.ok n)) ∧ Drawn0 w w' :=
  PMeanOf.atmos_Good.calls n _ w (Pure.Mo.atmos_good n)

set_option maxHeartbeats 2000000 in
theorem add_any (w0 w : World) (g : Nat) (v : Value) (l : List Int) (n : Int) (h : HeapAt w g v) (hr : Kd.R (Kd.int .i64) 2 w w0.heap.size (fun _ => True) v l) (hB : Below w0.heap.size w0 w) (hg0 : w0.heap.size ≤ g) (hl : l.length ≤ 16) :
    Calls Try.prog 29 #[.pointer (some ⟨g, 0, none⟩), .int .i64 n] w (AddPost w0 w g v (ad l n)) := by
  have HR := Aside0.mk hr
  have HB := Aside0.mk hB
  have HH := Aside0.mk h
  obtain ⟨A, c, rfl, hc, _⟩ := Kd.R_reads hr
  have h3 : w.cell? ⟨g, 0, none⟩ = some (.slice A l.length c) := (blk_cell h 0).trans rfl
  have f3 := blk_frozen h 0
  clear hr hB h
  have HG := Aside0.mk (good_calls w n)
  cases ho : Pure.Mo.ok n with
  | false =>
    rw [ho] at HG
    have HP : Aside0 (ad l n = (l, false, 2)) := ⟨by simp [ad, ho]⟩
    clear ho
    go_enter Try.func29, Try.ntmps29
    go_wp2_with (first | (go_at_call 18; refine (HG.out).mono ?_; rintro e w1 ⟨rfl, ⟨m, rfl⟩⟩))
    go_ret2
    rw [HP.out]
    exact ⟨_, rfl, HH.out, Kd.R_drewN HR.out m, pw_below_drewN HB.out m, Kept.of_below (pw_below_drewN (Below.refl _ _) m) _, .inl rfl⟩
  | true =>
    rw [ho] at HG
    by_cases h15 : 15 < l.length
    · have HP : Aside0 (ad l n = (l, false, 7)) := ⟨by simp [ad, ho, h15]⟩
      clear ho
      have hd : decide ((16 : Int) ≤ (l.length : Int)) = true := decide_eq_true (by omega)
      go_enter Try.func29, Try.ntmps29
      go_wp2_with (first | (go_at_call 18; refine (HG.out).mono ?_; rintro e w1 ⟨rfl, ⟨m, rfl⟩⟩))
      go_ret2
      rw [HP.out]
      exact ⟨_, rfl, HH.out, Kd.R_drewN HR.out m, pw_below_drewN HB.out m, Kept.of_below (pw_below_drewN (Below.refl _ _) m) _, .inl rfl⟩
    · have HP : Aside0 (ad l n = (l ++ [n], ((l.length : Int) + 1 == 16), 0)) := ⟨by simp [ad, ho, h15]⟩
      clear ho
      have hd : decide ((16 : Int) ≤ (l.length : Int)) = false := decide_eq_false (by omega)
      go_enter Try.func29, Try.ntmps29
      go_wp2_with fail
      refine (HG.out).mono ?_
      rintro e w1 ⟨rfl, hd1⟩
      have HR1 := Aside0.mk (Kd.R_below HR.out hd1.below)
      have HB1 := Aside0.mk (below_step HB.out hd1.below)
      have HH1 := Aside0.mk (show HeapAt w1 g (.slice A l.length c) from blk_below HH.out hd1.below)
      have HK1 := Aside0.mk (Kept.of_below hd1.below (fun k => k = g ∨ (Value.slice A l.length c).ownBlock = some k))
      clear hd1 h3 f3 HG
      have h3 : w1.cell? ⟨g, 0, none⟩ = some (.slice A l.length c) := (blk_cell HH1.out 0).trans rfl
      go_wp2_with (first | ((with_reducible refine gate_builtin (b := .append) rfl ?_); refine Kd.R_append (Kd.int .i64) (w0 := w0) (W := w1) w0.heap.size rfl (.tmp 21) (.tmp 23) 22 2 (.int .i64 0) 8 rfl Try.underlying22 PMeanOf.info2 rfl (by decide) (by decide) (.slice A l.length c) l n [.int .i64 n] (fun _ => True) (fun _ => False) rfl rfl rfl (fun _ hk => hk.elim) (fun _ _ => trivial) ?h1 ?h2 ?h3 ?h4 ?_; (case h1 => exact HR1.out); (case h2 => exact HB1.out); (case h3 => exact HB1.out.size); (case h4 => omega); intro v1 w2 hr1 hb1 hg1 hat1; obtain ⟨A1, c1, rfl⟩ := Kd.R_slice hr1; have e4 : w2.cell? ⟨g, 0, none⟩ = some (.slice A l.length c) := (blk_cell (blk_grown HH1.out hg1 (Kd.R_ne HR1.out HH1.out (by decide))) 0).trans rfl; have f4 : w2.frozen? ⟨g, 0, none⟩ = false := blk_frozen (blk_grown HH1.out hg1 (Kd.R_ne HR1.out HH1.out (by decide))) 0))
      go_ret2
      rw [HP.out]
      have hh2 : w2.heap[g]? = some (.cells #[.slice A l.length c] 92 (0, 0)) := blk_grown HH1.out hg1 (Kd.R_ne HR1.out HH1.out (by decide))
      have hne := Kd.R_ne hr1 hh2 (by decide)
      rw [show (l ++ [n]).length = l.length + 1 by simp] at hr1 hat1 hne
      refine ⟨_, rfl, blk_set hh2 0 (.slice A1 (l.length + 1) c1), Kd.R_mono (Kd.R_far (p := ⟨g, 0, none⟩) (Kd.R_tight rfl hr1) (fun k hk e => hne (by rw [← hk, e])) _) (fun _ _ => trivial), hb1.setCell hg0 _, ?_, ?_⟩
      · refine ⟨by have := HK1.out.1; have := hg1.size; simp [World.setCell]; omega, fun i hi hS => ?_⟩
        rw [Below.heap_setCell w2 ⟨g, 0, none⟩ _ i (fun e => hS (.inl e)), hg1.block i (Nat.lt_of_lt_of_le hi HK1.out.1) (fun e => hS (.inr e.symm))]
        exact HK1.out.2 i hi hS
      · rcases hat1 with hat1 | ⟨b, hb, hle⟩
        · exact .inl hat1
        · exact .inr ⟨b, hb, Nat.le_trans HK1.out.1 hle⟩
end Go.Proofs.Ytoknlaknffpigaa.Mw
