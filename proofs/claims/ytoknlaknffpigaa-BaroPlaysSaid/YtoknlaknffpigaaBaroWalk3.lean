/- Whatever ticks are taken in, what each brings, and what the log tells then, is the document's: the walk of the law BaroPlays of layer 16. -/
import Derived.Test.YtoknlaknffpigaaBaroWalk2
import Derived.Test.YtoknlaknffpigaaTicks
namespace Go.Proofs.Ytoknlaknffpigaa.Bw
open Go.RowKit Go.Proofs.YtoknlaknffpigaaW.PrintWords Go.Proofs.YtoknlaknffpigaaW.PrintLast Go.Proofs.YtoknlaknffpigaaW.PrintMore Go.Proofs.Ytoknlaknffpigaa.PBaroPlays

def LogIs (w : World) (g : Nat) (q : Int × Int × Int × Int) : Prop := LogAt w g q.1 q.2.1 q.2.2.1 q.2.2.2

theorem in_any (w : World) (g : Nat) (q : Int × Int × Int × Int) (hl : LogIs w g q) (x : Int) (h : Bool) (p : Int) (s : Bool)
    (hb : 0 ≤ q.1 ∧ q.1 ≤ 1000 ∧ 0 ≤ q.2.1 ∧ q.2.1 ≤ 1000 ∧ 0 ≤ q.2.2.1 ∧ q.2.2.1 ≤ 1000) :
    Calls Try.prog 22 #[.pointer (some ⟨g, 0, none⟩), .agg #[.int .i64 x, .bool h, .int .i64 p, .bool s]] w fun e w' =>
      e = .returned (.tuple #[.int .i64 (brV h p), .bool (h && okp p)]) ∧ LogIs w' g (step q ⟨x, h, p, s⟩) ∧ w.grownBy w' (some g) := by
  obtain ⟨q1, q2, q3, q4⟩ := q
  simp only at hb
  cases h with
  | false =>
    have e : step (q1, q2, q3, q4) ⟨x, false, p, s⟩ = (q1, q2, q3 + 1, q4) := by simp [step]
    rw [e]
    exact in_none w g q1 q2 q3 q4 hl x p s hb.2.2.2.2.1 hb.2.2.2.2.2
  | true =>
    by_cases hp : 90528 ≤ p ∧ p ≤ 430515
    · have hg : okp p = true := decide_eq_true hp
      have e : step (q1, q2, q3, q4) ⟨x, true, p, s⟩ = (q1 + 1, q2, q3, p) := by simp [step, hg]
      have e2 : brV true p = p := by simp [brV, hg]
      rw [e, e2, hg]
      exact in_good w g q1 q2 q3 q4 hl x p s hp.1 hp.2 hb.1 hb.2.1
    · have hg : okp p = false := decide_eq_false hp
      have e : step (q1, q2, q3, q4) ⟨x, true, p, s⟩ = (q1, q2 + 1, q3, q4) := by simp [step, hg]
      have e2 : brV true p = 0 := by simp [brV, hg]
      rw [e, e2, hg]
      exact in_bad w g q1 q2 q3 q4 hl x p s hp hb.2.2.1 hb.2.2.2.1

theorem brings_any (w : World) (x : Int) (h : Bool) (p : Int) (s : Bool) :
    Calls Try.prog 19 #[.agg #[.int .i64 x, .bool h, .int .i64 p, .bool s]] w fun e w' => e = .returned (.tuple #[.int .i64 (brV h p), .bool (h && okp p)]) ∧ Below w.heap.size w w' := by
  refine PBaroNone.baro_Brings.calls x h p s (brV h p) (h && okp p) w ?_
  unfold PBaroNone.baro_Brings.f
  rw [kindf]
  show _ = some (brV h p, h && okp p)
  unfold brV
  cases h with
  | false => rfl
  | true =>
    cases hg : okp p with
    | true => rw [if_pos rfl, if_pos (show decide (90528 ≤ p ∧ p ≤ 430515) = true from hg)]; rfl
    | false => rw [if_pos rfl, if_neg (by rw [show decide (90528 ≤ p ∧ p ≤ 430515) = false from hg]; decide)]; rfl

theorem fixed_any (w : World) : Calls Try.prog 20 #[] w fun e w' => e = .returned (.bool true) ∧ Below w.heap.size w w' := by
  refine PBaroNone.aneroidlaw16_fixed.calls true w ?_
  unfold PBaroNone.aneroidlaw16_fixed.f PBaroNone.baro_Brings.f
  rw [kindf, kindf]
  rfl

def BoxIs (w : World) (b : Nat) (x : Int) (h : Bool) (p : Int) (s : Bool) : Prop := w.heap[b]? = some (.cells #[.int .i64 x, .bool h, .int .i64 p, .bool s] 33 (0, 0))
theorem box_cells {w : World} {b : Nat} {x : Int} {h : Bool} {p : Int} {s : Bool} (hb : BoxIs w b x h p s) :
    w.cell? ⟨b, 0, none⟩ = some (.int .i64 x) ∧ w.cell? ⟨b, 1, none⟩ = some (.bool h) ∧ w.cell? ⟨b, 2, none⟩ = some (.int .i64 p) ∧ w.cell? ⟨b, 3, none⟩ = some (.bool s) :=
  ⟨(blk_cell hb 0).trans rfl, (blk_cell hb 1).trans rfl, (blk_cell hb 2).trans rfl, (blk_cell hb 3).trans rfl⟩

set_option maxHeartbeats 4000000 in
set_option maxRecDepth 100000 in
theorem law_any (w : World) (A : Option Addr) (c : Nat) (l : List S33) (hr : Kd.C k33 w A l.length l) (hc : l.length ≤ c) :
    Calls Try.prog 6 #[.slice A l.length c] w fun e w' => e = .returned (.bool true) ∧ Below w.heap.size w w' := by
  have HR := Aside0.mk hr
  have HC := Aside0.mk hc
  clear hr hc
  have hu33 := Try.underlying33
  by_cases hl : 200 < l.length
  · have h1 : decide ((200 : Int) < (l.length : Int)) = true := decide_eq_true (by omega)
    go_enter Try.func6, Try.ntmps6
    go_wp2_with (first | (go_at_call 20; refine (fixed_any _).mono ?_; rintro e w1 ⟨rfl, hb⟩))
    go_ret
    exact ⟨rfl, hb⟩
  · have h1 : decide ((200 : Int) < (l.length : Int)) = false := decide_eq_false (by omega)
    go_enter Try.func6, Try.ntmps6
    go_wp2_with (first | (go_at_call 21; refine (new_any _).mono ?_; rintro e w1 ⟨rfl, hn, hb⟩))
    have HN := Aside0.mk (show LogIs w1 w.heap.size (0, 0, 0, 0) from hn)
    have HB0 := Aside0.mk hb
    clear hn hb
    obtain ⟨g, hg⟩ : ∃ g : Nat, g = w.heap.size := ⟨_, rfl⟩
    rw [← hg] at HN ⊢
    have HG := Aside0.mk (show w.heap.size ≤ g by omega)
    clear hg
    go_loopw [28] (fun v28 wr => ∃ k : Nat, k ≤ l.length ∧ v28 = .int .i64 k ∧ Aside0 (LogIs wr g (cnt (l.take k))) ∧ Aside0 (Below w.heap.size w wr)) (fun v28 _ => l.length - (intOf v28).toNat)
    case atStart => exact ⟨0, Nat.zero_le _, rfl, HN, HB0⟩
    case round =>
      clear HN HB0
      obtain ⟨k, hk, rfl, HL, HB⟩ := hrel
      by_cases hlt : k < l.length
      · have p0 : (0 : Int) ≤ (k : Int) := Int.natCast_nonneg _
        have q0 : (k : Int) < (l.length : Int) := by omega
        obtain ⟨ad, e, hx0, hx1, hx2, hx3⟩ := at_T33 HR.out (k : Int) p0 q0
        cases e
        rw [Int.toNat_natCast] at hx0 hx1 hx2 hx3
        replace hx0 := (HB.out.cell (World.block_lt_of_cell? w _ hx0)).trans hx0
        replace hx1 := (HB.out.cell (World.block_lt_of_cell? w _ hx1)).trans hx1
        replace hx2 := (HB.out.cell (World.block_lt_of_cell? w _ hx2)).trans hx2
        replace hx3 := (HB.out.cell (World.block_lt_of_cell? w _ hx3)).trans hx3
        have HS : Aside0 (cnt (l.take (k + 1)) = step (cnt (l.take k)) (rd_T33 l (k : Int))) := ⟨by rw [rd_take l k hlt, cnt_snoc]⟩
        generalize rd_T33 l (k : Int) = t at hx0 hx1 hx2 hx3 HS
        obtain ⟨x, h, p, s⟩ := t
        simp only at hx0 hx1 hx2 hx3
        have hbd := cnt_bd (l.take k)
        have hlk : (l.take k).length ≤ k := List.length_take_le _ _
        have HQ := Aside0.mk (show 0 ≤ (cnt (l.take k)).1 ∧ (cnt (l.take k)).1 ≤ 1000 ∧ 0 ≤ (cnt (l.take k)).2.1 ∧ (cnt (l.take k)).2.1 ≤ 1000 ∧ 0 ≤ (cnt (l.take k)).2.2.1 ∧ (cnt (l.take k)).2.2.1 ≤ 1000 by omega)
        clear hbd hlk
        obtain ⟨q, hq⟩ : ∃ q, q = cnt (l.take k) := ⟨_, rfl⟩
        rw [← hq] at HL HS HQ
        clear hq
        go_wp2_with fail
        have HX := Aside0.mk (show BoxIs (wr.alloc (.cells #[.int .i64 x, .bool h, .int .i64 p, .bool s] 33)) wr.heap.size x h p s from blk_new _ _)
        have HL1 := Aside0.mk (show LogIs (wr.alloc (.cells #[.int .i64 x, .bool h, .int .i64 p, .bool s] 33)) g q from blk_alloc HL.out _)
        have HB1 := Aside0.mk (below_alloc HB.out (.cells #[.int .i64 x, .bool h, .int .i64 p, .bool s] 33))
        have HNE := Aside0.mk (show wr.heap.size ≠ g from fun e => by have := blk_lt HL.out; omega)
        clear HL HB
        generalize wr.alloc (.cells #[.int .i64 x, .bool h, .int .i64 p, .bool s] 33) = W1 at HX HL1 HB1 ⊢
        generalize wr.heap.size = bb at HX HNE ⊢
        refine (in_any W1 g q HL1.out x h p s HQ.out).mono ?_
        rintro e w2 ⟨rfl, hl2, hg2⟩
        have HX2 := Aside0.mk (show BoxIs w2 bb x h p s from blk_grown HX.out hg2 (fun e => HNE.out (by injection e)))
        have HB2 := Aside0.mk (HB1.out.grown hg2 HB1.out.size (fun j e => by injection e with e; have := HG.out; omega))
        have HL2 := Aside0.mk (show LogIs w2 g (cnt (l.take (k + 1))) by rw [HS.out]; exact hl2)
        clear hl2 hg2 HX HB1 HL1 HS
        have cs := box_cells HX2.out
        obtain ⟨b0, b1, b2, b3⟩ := cs
        go_wp2_with fail
        refine (refBrings_any w2 x h p s).mono ?_
        rintro e w3 ⟨rfl, hb3⟩
        clear b0 b1 b2 b3
        have HX3 := Aside0.mk (show BoxIs w3 bb x h p s from blk_below HX2.out hb3)
        have HL3 := Aside0.mk (show LogIs w3 g (cnt (l.take (k + 1))) from blk_below HL2.out hb3)
        have HB3 := Aside0.mk (below_step HB2.out hb3)
        clear HX2 HL2 HB2 hb3
        have cs := box_cells HX3.out
        obtain ⟨b0, b1, b2, b3⟩ := cs
        go_wp2_with fail
        refine (brings_any w3 x h p s).mono ?_
        rintro e w4 ⟨rfl, hb4⟩
        clear b0 b1 b2 b3
        have HL4 := Aside0.mk (show LogIs w4 g (cnt (l.take (k + 1))) from blk_below HL3.out hb4)
        have HB4 := Aside0.mk (below_step HB3.out hb4)
        clear HX3 HL3 HB3 hb4
        go_wp2_with fail
        refine (counts_any w4 g _ _ _ _ HL4.out).mono ?_
        rintro e w5 ⟨rfl, ⟨n5, rfl⟩⟩
        have HT := Aside0.mk (List.length_take_of_le (show k + 1 ≤ l.length by omega))
        have HC5 := Aside0.mk (Kd.C_take (m := k + 1) (Kd.C_below HR.out (pw_below_drewN HB4.out n5)) (by omega))
        have HL5 := Aside0.mk (show LogIs (w4.drewN n5) g (cnt (l.take (k + 1))) from HL4.out)
        have HB5 := Aside0.mk (pw_below_drewN HB4.out n5)
        clear HL4 HB4
        generalize w4.drewN n5 = W5 at HC5 HL5 HB5 ⊢
        have hcap := HC.out
        go_wp2_with fail
        have hcall := refCounts_any W5 (some ad) c (l.take (k + 1)) HC5.out (by rw [HT.out]; omega) (by rw [HT.out]; omega)
        rw [HT.out] at hcall
        refine hcall.mono ?_
        clear hcall
        rintro e w6 ⟨rfl, hb6⟩
        have HL6 := Aside0.mk (show LogIs w6 g (cnt (l.take (k + 1))) from blk_below HL5.out hb6)
        have HB6 := Aside0.mk (below_step HB5.out hb6)
        clear HC5 HL5 HB5 hb6 hcap
        obtain ⟨q', hq'⟩ : ∃ q', q' = cnt (l.take (k + 1)) := ⟨_, rfl⟩
        rw [← hq'] at HL6 ⊢
        have HQ' := Aside0.mk hq'
        clear hq'
        obtain ⟨r1, r2, r3, r4⟩ := q'
        simp only
        go_wp2_with (first | (go_at_call 26; refine (last_any w6 g r1 r2 r3 r4 HL6.out).mono ?_; rintro e w7 ⟨rfl, rfl⟩))
        go_roundw
        case rel => exact ⟨k + 1, by omega, by go_num, ⟨by rw [← HQ'.out]; exact HL6.out⟩, HB6⟩
        case measure => simp [intOf]; omega
      · have e : l.take k = l := List.take_of_length_le (by omega)
        go_wp2_with (first | (go_at_call 20; refine (fixed_any _).mono ?_; rintro e w1 ⟨rfl, hb⟩))
        go_ret
        exact ⟨rfl, below_step HB.out hb⟩

def mkS (t : Tk.T) : S33 := ⟨t.1, t.2.1, t.2.2.1, t.2.2.2⟩
theorem reads_ticks {w : World} {A : Option Addr} {len : Nat} {l : List Tk.T} (hr : ReadsRow (fun t c => c = Tk.cellsOfT t) 4 w A len l) : Kd.C k33 w A len (l.map mkS) := by
  obtain ⟨h1, h2, h3⟩ := hr
  refine ⟨by simpa using h1, h2, fun hp => ?_⟩
  obtain ⟨ad, e, hc⟩ := h3 hp
  refine ⟨ad, e, fun j p hj => ?_⟩
  rw [List.getElem?_map] at hj
  obtain ⟨t, ht, rfl⟩ := Option.map_eq_some_iff.1 hj
  obtain ⟨c, hc1, rfl, hc2⟩ := hc j t ht
  exact ⟨Tk.cellsOfT t, hc1, k33_mk w (mkS t), hc2⟩
theorem law_ticks (w : World) (A : Option Addr) (len c : Nat) (l : List Tk.T) (hl : l.length = len) (hr : ReadsRow (fun t c => c = Tk.cellsOfT t) 4 w A len l) (hc : len ≤ c) :
    Calls Try.prog 6 #[.slice A len c] w fun e w' => e = .returned (.bool true) ∧ Below w.heap.size w w' := by
  subst hl
  have h := law_any w A c (l.map mkS) (by rw [List.length_map]; exact reads_ticks hr) (by rw [List.length_map]; exact hc)
  rw [List.length_map] at h
  exact h
end Go.Proofs.Ytoknlaknffpigaa.Bw
