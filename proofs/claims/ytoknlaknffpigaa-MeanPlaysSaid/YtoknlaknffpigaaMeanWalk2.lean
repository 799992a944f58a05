/- Whatever counts are put in, and taken out, what each call answers is the document's: the walk of the law MeanPlays of layer 17. -/
import Derived.Test.YtoknlaknffpigaaMeanWalk
namespace Go.Proofs.Ytoknlaknffpigaa.Mw
open Go.RowKit Go.Proofs.YtoknlaknffpigaaW.PrintWords Go.Proofs.YtoknlaknffpigaaW.PrintLast Go.Proofs.YtoknlaknffpigaaW.PrintMore

theorem refAdd_f (l : List Int) (n : Int) (hl : l.length ≤ 16) : PMeanPlays.aneroidref17_Add.f l n = some (ad l n) := by
  have hg : PMeanPlays.aneroidref06_Good.f n = some (Pure.Mo.ok n) := Pure.Mo.ref_good n
  unfold PMeanPlays.aneroidref17_Add.f ad
  rw [hg]
  simp only [Option.bind_some]
  cases Pure.Mo.ok n with
  | false => rfl
  | true =>
    rw [if_pos rfl, if_pos rfl]
    by_cases h15 : 15 < l.length
    · rw [if_pos (by omega), if_pos h15]
    · rw [if_neg (by omega), if_neg h15]
      simp only [List.nil_append, List.length_nil]
      rw [if_pos (by omega), if_pos (by omega)]
      simp

theorem ad_len (l : List Int) (n : Int) (hl : l.length ≤ 16) : (ad l n).1.length ≤ 16 := by
  unfold ad
  split
  · split
    · exact hl
    · simp only [List.length_append, List.length_cons, List.length_nil]; omega
  · exact hl

theorem fixed_any (w : World) : Calls Try.prog 15 #[] w fun e w' => e = .returned (.bool true) ∧ Below w.heap.size w w' :=
  PMeanOf.aneroidlaw17_fixed.calls 3 true w (Pure.Mo.fixed_tells 3 (by omega))

theorem refMean_any (w : World) (A : Option Addr) (c : Nat) (l : List Int) (hr : Kd.C (Kd.int .i64) w A l.length l) (hc : l.length ≤ c) (hl : l.length ≤ 1000) :
    Calls Try.prog 17 #[.slice A l.length c] w fun e w' => e = .returned (.tuple #[.int .i64 (mres l).1, .int .i64 (mres l).2]) ∧ Drawn0 w w' :=
  PMeanOf.aneroidref17_Mean.calls (l.length + l.length + 430521) A c l _ _ w hr hc (Pure.Mo.ref_tells l (by omega) _ (by omega))

theorem lit0 (W : World) (base : Nat) (hb : base ≤ W.heap.size) (ok : Nat → Prop) (h : ok W.heap.size) : Kd.R (Kd.int .i64) 2 (W.alloc (.cells #[] 2)) base ok (.slice (some ⟨W.heap.size, 0, none⟩) 0 0) [] := by
  refine Kd.R_of_own (xs := []) (World.ownsRow_lit (base := base) (e := 2) (size := 1) W #[] 0 hb (by simp [maxLen]) (by simp)) fun k hk => ?_
  have e : W.heap.size = k := by simpa [Value.ownBlock] using hk
  rw [← e]
  exact h

/-- What the law's loop keeps: the heap's counts and the document's are alike. -/
structure St (w wr : World) (g : Nat) (v u : Value) (xs : List Int) : Prop where
  heap : HeapAt wr g v
  own : Kd.R (Kd.int .i64) 2 wr w.heap.size (fun _ => True) v xs
  ref : Kd.R (Kd.int .i64) 2 wr w.heap.size (fun k => v.ownBlock ≠ some k) u xs
  below : Below w.heap.size w wr
  len : xs.length ≤ 16

set_option maxHeartbeats 4000000 in
set_option maxRecDepth 100000 in
theorem law_any (w : World) (A : Option Addr) (c : Nat) (l : List Int) (hr : Kd.C (Kd.int .i64) w A l.length l) (hc : l.length ≤ c) :
    Calls Try.prog 7 #[.slice A l.length c] w fun e w' => e = .returned (.bool true) ∧ Below w.heap.size w w' := by
  have HR := Aside0.mk hr
  have HC := Aside0.mk hc
  clear hr hc
  by_cases hl : 100 < l.length
  · have h1 : decide ((100 : Int) < (l.length : Int)) = true := decide_eq_true (by omega)
    go_enter Try.func7, Try.ntmps7
    go_wp2_with (first | (go_at_call 15; refine (fixed_any _).mono ?_; rintro e w1 ⟨rfl, hb⟩))
    go_ret
    exact ⟨rfl, hb⟩
  · have h1 : decide ((100 : Int) < (l.length : Int)) = false := decide_eq_false (by omega)
    go_enter Try.func7, Try.ntmps7
    go_wp2_with (first | (go_at_call 27; refine (new_any _).mono ?_; rintro e w1 ⟨rfl, hn, hb⟩))
    obtain ⟨g, hg⟩ : ∃ g : Nat, g = w.heap.size := ⟨_, rfl⟩
    rw [← hg] at hn ⊢
    have HG := Aside0.mk (show w.heap.size ≤ g by omega)
    have HS0 : Aside0 (St w (w1.alloc (.cells #[] 2)) g (.slice none 0 0) (.slice (some ⟨w1.heap.size, 0, none⟩) 0 0) []) :=
      ⟨⟨blk_alloc hn _, Kd.R_nil _ _ _ _ _, lit0 w1 w.heap.size hb.size _ (by simp [Value.ownBlock]), below_alloc hb _, by simp⟩⟩
    clear hg hn hb
    go_loopw [4, 26] (fun v4 v26 wr => ∃ (k : Nat) (xs : List Int) (v : Value), k ≤ l.length ∧ v26 = .int .i64 k ∧ Aside0 (St w wr g v v4 xs)) (fun _ v26 _ => l.length - (intOf v26).toNat)
    case atStart => exact ⟨0, [], .slice none 0 0, Nat.zero_le _, rfl, HS0⟩
    case round =>
      clear HS0
      obtain ⟨k, xs, v, hk, rfl, HS⟩ := hrel
      by_cases hlt : k < l.length
      · have p0 : (0 : Int) ≤ (k : Int) := Int.natCast_nonneg _
        have q0 : (k : Int) < (l.length : Int) := by omega
        obtain ⟨ad0, c0, e, _, hK, hx⟩ := Kd.C_get HR.out (0 : Int) (k : Int) p0 q0
        cases e
        have hx0 := Kd.foot_int HR.out (k : Int) p0 q0
        rw [Int.toNat_natCast] at hx0
        replace hx0 := (HS.out.below.cell (World.block_lt_of_cell? w _ hx0)).trans hx0
        clear hK hx
        obtain ⟨n, hn⟩ : ∃ n, n = rd l (k : Int) := ⟨_, rfl⟩
        rw [← hn] at hx0
        clear hn
        obtain ⟨A1, c1, rfl⟩ := Kd.R_slice HS.out.own
        by_cases hn0 : n < 0
        · have hd : decide (n < 0) = true := decide_eq_true hn0
          go_wp2_with fail
          refine (clear_any wr g A1 xs.length c1 HS.out.heap).mono ?_
          rintro e w1 ⟨rfl, hw1⟩
          have HW1 := Aside0.mk hw1
          clear hw1
          go_wp2_with fail
          have HSn : Aside0 (St w (w1.alloc (.cells #[] 2)) g (.slice none 0 0) (.slice (some ⟨w1.heap.size, 0, none⟩) 0 0) []) := by
            have hb1 : Below w.heap.size w w1 := by rw [HW1.out]; exact HS.out.below.setCell HG.out _
            have hh1 : HeapAt w1 g (.slice none 0 0) := by rw [HW1.out]; exact blk_set HS.out.heap 0 _
            exact ⟨⟨blk_alloc hh1 _, Kd.R_nil _ _ _ _ _, lit0 w1 w.heap.size hb1.size _ (by simp [Value.ownBlock]), below_alloc hb1 _, by simp⟩⟩
          clear HS HW1
          generalize Value.slice none 0 0 = v at HSn
          generalize Value.slice (some ⟨w1.heap.size, 0, none⟩) 0 0 = u at HSn ⊢
          generalize w1.alloc (.cells #[] 2) = W at HSn ⊢
          obtain ⟨xs, hxs⟩ : ∃ ys : List Int, ys = [] := ⟨_, rfl⟩
          rw [← hxs] at HSn
          clear hxs
          have HS := HSn
          clear HSn
          refine (add_any w W g v xs n HS.out.heap HS.out.own HS.out.below HG.out HS.out.len).mono ?_
          intro e w2 hp
          obtain ⟨v2, rfl, hh2, hr2, hb2, hk2, hat2⟩ := hp
          have hu2 : Kd.R (Kd.int .i64) 2 w2 w.heap.size (fun k => v2.ownBlock ≠ some k) u xs := by
            have hne := Kd.R_ne HS.out.ref HS.out.heap (by decide)
            have hlt := Kd.R_lt HS.out.ref
            have h1 := Kd.R_kept (Kd.R_tight rfl HS.out.ref) hk2 (fun k hk hS => by
              rcases hS with rfl | hS
              · exact hne hk
              · exact HS.out.ref.1 k hk.symm hS)
            refine Kd.R_mono h1 fun k hk => ?_
            rcases hat2 with hat2 | ⟨b, hb, hle⟩
            · rw [hat2]
              exact HS.out.ref.1 k hk.symm
            · rw [hb]
              intro e
              injection e with e
              have := hlt k hk.symm
              omega
          have HU2 := Aside0.mk hu2
          have HH2 := Aside0.mk hh2
          have HR2 := Aside0.mk hr2
          have HB2 := Aside0.mk hb2
          have HX := Aside0.mk HS.out.len
          clear hu2 hh2 hr2 hb2 hk2 hat2 HS
          go_wp2_with fail
          refine (PMeanPlays.aneroidref17_Add.calls (fun k => some k = u.ownBlock) u xs n (ad xs n).1 (ad xs n).2.1 (ad xs n).2.2 w w2 HB2.out (Kd.R_tight rfl HU2.out) (refAdd_f xs n HX.out)).mono ?_
          intro e w3 hp
          obtain ⟨u3, rfl, hr3, hb3, hk3⟩ := hp
          have hv3 : Kd.R (Kd.int .i64) 2 w3 w.heap.size (fun _ => True) v2 (ad xs n).1 := Kd.R_mono (Kd.R_kept (Kd.R_tight rfl HR2.out) hk3 (fun k hk hS => HU2.out.1 k hS.symm hk.symm)) (fun _ _ => trivial)
          have hh3 : HeapAt w3 g v2 := blk_kept HH2.out hk3 (fun hS => Kd.R_ne HU2.out HH2.out (by decide) hS)
          have hu3 : Kd.R (Kd.int .i64) 2 w3 w.heap.size (fun k => v2.ownBlock ≠ some k) u3 (ad xs n).1 := by
            refine Kd.R_mono hr3 fun k hk => ?_
            rcases hk with hk | hk
            · exact HU2.out.1 k hk.symm
            · intro e
              have := Kd.R_lt HR2.out k e
              omega
          have HS3 : Aside0 (St w w3 g v2 u3 (ad xs n).1) := ⟨⟨hh3, hv3, hu3, hb3, ad_len xs n HX.out⟩⟩
          clear hv3 hh3 hu3 hb3 hr3 hk3 HU2 HH2 HR2 HB2 HX
          obtain ⟨full, hf⟩ : ∃ b, b = (ad xs n).2.1 := ⟨_, rfl⟩
          obtain ⟨er, he⟩ : ∃ b, b = (ad xs n).2.2 := ⟨_, rfl⟩
          rw [← hf, ← he]
          clear hf he
          generalize (ad xs n).1 = ys at HS3 ⊢
          go_wp2_with fail
          refine (mean_any w3 g w.heap.size _ v2 ys HS3.out.heap HS3.out.own (by have := HS3.out.len; omega)).mono ?_
          rintro e w4 ⟨rfl, hd4⟩
          have HS4 : Aside0 (St w w4 g v2 u3 ys) := ⟨⟨blk_below HS3.out.heap hd4.below, Kd.R_below HS3.out.own hd4.below, Kd.R_below HS3.out.ref hd4.below, below_step HS3.out.below hd4.below, HS3.out.len⟩⟩
          clear hd4 HS3
          go_wp2_with fail
          obtain ⟨A5, c5, e5, hc5, hC5⟩ := Kd.R_reads HS4.out.ref
          subst e5
          have HC5 := Aside0.mk hC5
          clear hC5
          refine (refMean_any w4 A5 c5 ys HC5.out hc5 (by have := HS4.out.len; omega)).mono ?_
          rintro e w6 ⟨rfl, hd6⟩
          have HS6 : Aside0 (St w w6 g v2 (.slice A5 ys.length c5) ys) := ⟨⟨blk_below HS4.out.heap hd6.below, Kd.R_below HS4.out.own hd6.below, Kd.R_below HS4.out.ref hd6.below, below_step HS4.out.below hd6.below, HS4.out.len⟩⟩
          clear hd6 HS4 HC5
          obtain ⟨A7, c7, e7⟩ := Kd.R_slice HS6.out.own
          subst e7
          go_wp2_with (first | (go_at_call 32; refine (len_any w6 g A7 ys.length c7 HS6.out.heap).mono ?_; rintro e w7 ⟨rfl, rfl⟩))
          go_roundw
          case rel => exact ⟨k + 1, ys, _, by omega, by go_num, HS6⟩
          case measure => simp [intOf]; omega
        · have hd : decide (n < 0) = false := decide_eq_false hn0
          go_wp2_with fail
          generalize Value.slice A1 xs.length c1 = v at HS
          obtain ⟨W, hW⟩ : ∃ W : World, W = wr := ⟨_, rfl⟩
          rw [← hW] at HS ⊢
          clear hW
          obtain ⟨u, hu⟩ : ∃ u : Value, u = u4 := ⟨_, rfl⟩
          rw [← hu] at HS ⊢
          clear hu
          refine (add_any w W g v xs n HS.out.heap HS.out.own HS.out.below HG.out HS.out.len).mono ?_
          intro e w2 hp
          obtain ⟨v2, rfl, hh2, hr2, hb2, hk2, hat2⟩ := hp
          have hu2 : Kd.R (Kd.int .i64) 2 w2 w.heap.size (fun k => v2.ownBlock ≠ some k) u xs := by
            have hne := Kd.R_ne HS.out.ref HS.out.heap (by decide)
            have hlt := Kd.R_lt HS.out.ref
            have h1 := Kd.R_kept (Kd.R_tight rfl HS.out.ref) hk2 (fun k hk hS => by
              rcases hS with rfl | hS
              · exact hne hk
              · exact HS.out.ref.1 k hk.symm hS)
            refine Kd.R_mono h1 fun k hk => ?_
            rcases hat2 with hat2 | ⟨b, hb, hle⟩
            · rw [hat2]
              exact HS.out.ref.1 k hk.symm
            · rw [hb]
              intro e
              injection e with e
              have := hlt k hk.symm
              omega
          have HU2 := Aside0.mk hu2
          have HH2 := Aside0.mk hh2
          have HR2 := Aside0.mk hr2
          have HB2 := Aside0.mk hb2
          have HX := Aside0.mk HS.out.len
          clear hu2 hh2 hr2 hb2 hk2 hat2 HS
          go_wp2_with fail
          refine (PMeanPlays.aneroidref17_Add.calls (fun k => some k = u.ownBlock) u xs n (ad xs n).1 (ad xs n).2.1 (ad xs n).2.2 w w2 HB2.out (Kd.R_tight rfl HU2.out) (refAdd_f xs n HX.out)).mono ?_
          intro e w3 hp
          obtain ⟨u3, rfl, hr3, hb3, hk3⟩ := hp
          have hv3 : Kd.R (Kd.int .i64) 2 w3 w.heap.size (fun _ => True) v2 (ad xs n).1 := Kd.R_mono (Kd.R_kept (Kd.R_tight rfl HR2.out) hk3 (fun k hk hS => HU2.out.1 k hS.symm hk.symm)) (fun _ _ => trivial)
          have hh3 : HeapAt w3 g v2 := blk_kept HH2.out hk3 (fun hS => Kd.R_ne HU2.out HH2.out (by decide) hS)
          have hu3 : Kd.R (Kd.int .i64) 2 w3 w.heap.size (fun k => v2.ownBlock ≠ some k) u3 (ad xs n).1 := by
            refine Kd.R_mono hr3 fun k hk => ?_
            rcases hk with hk | hk
            · exact HU2.out.1 k hk.symm
            · intro e
              have := Kd.R_lt HR2.out k e
              omega
          have HS3 : Aside0 (St w w3 g v2 u3 (ad xs n).1) := ⟨⟨hh3, hv3, hu3, hb3, ad_len xs n HX.out⟩⟩
          clear hv3 hh3 hu3 hb3 hr3 hk3 HU2 HH2 HR2 HB2 HX
          obtain ⟨full, hf⟩ : ∃ b, b = (ad xs n).2.1 := ⟨_, rfl⟩
          obtain ⟨er, he⟩ : ∃ b, b = (ad xs n).2.2 := ⟨_, rfl⟩
          rw [← hf, ← he]
          clear hf he
          generalize (ad xs n).1 = ys at HS3 ⊢
          go_wp2_with fail
          refine (mean_any w3 g w.heap.size _ v2 ys HS3.out.heap HS3.out.own (by have := HS3.out.len; omega)).mono ?_
          rintro e w4 ⟨rfl, hd4⟩
          have HS4 : Aside0 (St w w4 g v2 u3 ys) := ⟨⟨blk_below HS3.out.heap hd4.below, Kd.R_below HS3.out.own hd4.below, Kd.R_below HS3.out.ref hd4.below, below_step HS3.out.below hd4.below, HS3.out.len⟩⟩
          clear hd4 HS3
          go_wp2_with fail
          obtain ⟨A5, c5, e5, hc5, hC5⟩ := Kd.R_reads HS4.out.ref
          subst e5
          have HC5 := Aside0.mk hC5
          clear hC5
          refine (refMean_any w4 A5 c5 ys HC5.out hc5 (by have := HS4.out.len; omega)).mono ?_
          rintro e w6 ⟨rfl, hd6⟩
          have HS6 : Aside0 (St w w6 g v2 (.slice A5 ys.length c5) ys) := ⟨⟨blk_below HS4.out.heap hd6.below, Kd.R_below HS4.out.own hd6.below, Kd.R_below HS4.out.ref hd6.below, below_step HS4.out.below hd6.below, HS4.out.len⟩⟩
          clear hd6 HS4 HC5
          obtain ⟨A7, c7, e7⟩ := Kd.R_slice HS6.out.own
          subst e7
          go_wp2_with (first | (go_at_call 32; refine (len_any w6 g A7 ys.length c7 HS6.out.heap).mono ?_; rintro e w7 ⟨rfl, rfl⟩))
          go_roundw
          case rel => exact ⟨k + 1, ys, _, by omega, by go_num, HS6⟩
          case measure => simp [intOf]; omega
      · have e : k = l.length := by omega
        go_wp2_with (first | (go_at_call 15; refine (fixed_any _).mono ?_; rintro e w1 ⟨rfl, hb⟩))
        go_ret
        exact ⟨rfl, below_step HS.out.below hb⟩

theorem law_row (w : World) (a0 : Option Addr) (len0 cap0 : Nat) (z0 : List Int)
    (w0 : (a0 = none ∧ len0 = 0 ∧ cap0 = 0 ∧ z0 = []) ∨ ∃ x, a0 = some x ∧ len0 ≤ cap0 ∧ cap0 ≤ maxLen ∧ z0.length = cap0 ∧ (∀ i, i < z0.length → w.cell? (x.add i) = some (.int .i64 (z0.getD i 0))) ∧ ∀ n ∈ z0, (Lit.int .i64 n).wf = true) :
    Calls Try.prog 7 #[.slice a0 len0 cap0] w fun e w' => e = .returned (.bool true) ∧ Below w.heap.size w w' := by
  obtain ⟨l0, rfl, hr0, _, _, hc0⟩ := ReadsInt.ofRowC w0
  exact law_any w a0 cap0 l0 (Kd.C_of_reads (d := (0 : Int)) (h1 := fun _ => rfl) hr0) hc0
end Go.Proofs.Ytoknlaknffpigaa.Mw
