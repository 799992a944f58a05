/- The walks of the document's log of ticks (the reference of layer 16): what a tick brings, and the counts of all ticks so far. -/
import Derived.Test.YtoknlaknffpigaaBaroWalk
import Derived.Test.YtoknlaknffpigaaPBaroPlaysx0
namespace Go.Proofs.Ytoknlaknffpigaa.Bw
open Go.RowKit Go.Proofs.YtoknlaknffpigaaW.PrintWords Go.Proofs.YtoknlaknffpigaaW.PrintLast Go.Proofs.YtoknlaknffpigaaW.PrintMore Go.Proofs.Ytoknlaknffpigaa.PBaroPlays

def okp (p : Int) : Bool := decide (90528 ≤ p ∧ p ≤ 430515)
theorem refGood (p : Int) : PMeanOf.aneroidref06_Good.f p = some (okp p) := by
  unfold PMeanOf.aneroidref06_Good.f okp
  by_cases h : 90528 ≤ p
  · rw [if_pos (by omega)]
    by_cases h2 : p ≤ 430515
    · simp [h, h2, show p < 430516 by omega]
    · simp [h2, show ¬ p < 430516 by omega]
  · rw [if_neg (by omega)]
    simp [h]

def brV (h : Bool) (p : Int) : Int := if h && okp p then p else 0
theorem refBrings_any (w : World) (x : Int) (h : Bool) (p : Int) (s : Bool) :
    Calls Try.prog 23 #[.agg #[.int .i64 x, .bool h, .int .i64 p, .bool s]] w fun e w' => e = .returned (.tuple #[.int .i64 (brV h p), .bool (h && okp p)]) ∧ Below w.heap.size w w' := by
  cases h with
  | false =>
    go_enter Try.func23, Try.ntmps23
    go_wp2
    go_ret2
    exact ⟨by simp [brV], below_alloc (Below.refl _ _) _⟩
  | true =>
    have HG := Aside0.mk (refGood p)
    unfold brV
    cases hg : okp p with
    | true =>
      rw [hg] at HG
      clear hg
      go_enter Try.func23, Try.ntmps23
      go_wp2_with (first | (go_at_call 49; refine (PMeanOf.aneroidref06_Good.calls p true _ HG.out).mono ?_; rintro e w1 ⟨rfl, ⟨n, rfl⟩⟩))
      go_ret2
      exact ⟨by simp, pw_below_drewN (below_alloc (Below.refl _ _) _) _⟩
    | false =>
      rw [hg] at HG
      clear hg
      go_enter Try.func23, Try.ntmps23
      go_wp2_with (first | (go_at_call 49; refine (PMeanOf.aneroidref06_Good.calls p false _ HG.out).mono ?_; rintro e w1 ⟨rfl, ⟨n, rfl⟩⟩))
      go_ret2
      exact ⟨by simp, pw_below_drewN (below_alloc (Below.refl _ _) _) _⟩

theorem results_tmp4 {fn : Func} {t u v x : Tmp} (h : fn.results = #[.tmp t, .tmp u, .tmp v, .tmp x]) (tmps : Array Value) (P : Program) (w : World) :
    (results fn tmps).run P w = .ok (.tuple #[tmps.getD t undef, tmps.getD u undef, tmps.getD v undef, tmps.getD x undef]) w := by simp [results, h]

/-- The counts of ticks: good ones, bad ones, none; the last one that was brought. -/
def step (a : Int × Int × Int × Int) (t : S33) : Int × Int × Int × Int :=
  if t.f1 && okp t.f2 then (a.1 + 1, a.2.1, a.2.2.1, t.f2) else if t.f1 then (a.1, a.2.1 + 1, a.2.2.1, a.2.2.2) else (a.1, a.2.1, a.2.2.1 + 1, a.2.2.2)
def cnt (l : List S33) : Int × Int × Int × Int := l.foldl step (0, 0, 0, 0)
theorem cnt_snoc (l : List S33) (t : S33) : cnt (l ++ [t]) = step (cnt l) t := by simp [cnt, List.foldl_append]
theorem fold_bd : ∀ (l : List S33) (n : Int) (a : Int × Int × Int × Int), 0 ≤ a.1 → a.1 ≤ n → 0 ≤ a.2.1 → a.2.1 ≤ n → 0 ≤ a.2.2.1 → a.2.2.1 ≤ n →
    0 ≤ (l.foldl step a).1 ∧ (l.foldl step a).1 ≤ n + l.length ∧ 0 ≤ (l.foldl step a).2.1 ∧ (l.foldl step a).2.1 ≤ n + l.length ∧ 0 ≤ (l.foldl step a).2.2.1 ∧ (l.foldl step a).2.2.1 ≤ n + l.length := by
  intro l
  induction l with
  | nil =>
    intro n a h1 h2 h3 h4 h5 h6
    simp only [List.foldl_nil, List.length_nil]
    omega
  | cons t l ih =>
    intro n a h1 h2 h3 h4 h5 h6
    simp only [List.foldl_cons, List.length_cons]
    have hs : 0 ≤ (step a t).1 ∧ (step a t).1 ≤ n + 1 ∧ 0 ≤ (step a t).2.1 ∧ (step a t).2.1 ≤ n + 1 ∧ 0 ≤ (step a t).2.2.1 ∧ (step a t).2.2.1 ≤ n + 1 := by
      unfold step
      split
      · simp only; omega
      · split <;> (simp only; omega)
    have h := ih (n + 1) (step a t) hs.1 hs.2.1 hs.2.2.1 hs.2.2.2.1 hs.2.2.2.2.1 hs.2.2.2.2.2
    omega
theorem cnt_bd (l : List S33) : 0 ≤ (cnt l).1 ∧ (cnt l).1 ≤ l.length ∧ 0 ≤ (cnt l).2.1 ∧ (cnt l).2.1 ≤ l.length ∧ 0 ≤ (cnt l).2.2.1 ∧ (cnt l).2.2.1 ≤ l.length := by
  have h := fold_bd l 0 (0, 0, 0, 0) (Int.le_refl _) (Int.le_refl _) (Int.le_refl _) (Int.le_refl _) (Int.le_refl _) (Int.le_refl _)
  unfold cnt
  omega
theorem rd_take (l : List S33) (k : Nat) (h : k < l.length) : l.take (k + 1) = l.take k ++ [rd_T33 l (k : Int)] := by
  rw [List.take_succ_eq_append_getElem h]
  congr 2
  unfold rd_T33
  simp [List.getD_eq_getElem?_getD, List.getElem?_eq_getElem h]

set_option maxHeartbeats 4000000 in
set_option maxRecDepth 100000 in
theorem refCounts_any (w : World) (A : Option Addr) (c : Nat) (l : List S33) (hr : Kd.C k33 w A l.length l) (_hc : l.length ≤ c) (hl : l.length ≤ 1000) :
    Calls Try.prog 25 #[.slice A l.length c] w fun e w' => e = .returned (.tuple #[.int .i64 (cnt l).1, .int .i64 (cnt l).2.1, .int .i64 (cnt l).2.2.1, .int .i64 (cnt l).2.2.2]) ∧ Below w.heap.size w w' := by
  have HR := Aside0.mk hr
  clear hr
  have hu33 := Try.underlying33
  go_enter Try.func25, Try.ntmps25
  go_wp2
  go_loopw [6, 7, 8, 9, 10] (fun v6 v7 v8 v9 v10 wr => ∃ k : Nat, k ≤ l.length ∧ v10 = .int .i64 k ∧ v6 = .int .i64 (cnt (l.take k)).1 ∧ v7 = .int .i64 (cnt (l.take k)).2.1 ∧ v8 = .int .i64 (cnt (l.take k)).2.2.1 ∧ v9 = .int .i64 (cnt (l.take k)).2.2.2 ∧ Aside0 (Below w.heap.size w wr))
    (fun _ _ _ _ v10 _ => l.length - (intOf v10).toNat)
  case atStart => exact ⟨0, Nat.zero_le _, rfl, rfl, rfl, rfl, rfl, ⟨Below.refl _ _⟩⟩
  case round =>
    obtain ⟨k, hk, rfl, rfl, rfl, rfl, rfl, HB⟩ := hrel
    have hbd := cnt_bd (l.take k)
    have hlk : (l.take k).length ≤ k := List.length_take_le _ _
    by_cases hlt : k < l.length
    · have p0 : (0 : Int) ≤ (k : Int) := Int.natCast_nonneg _
      have q0 : (k : Int) < (l.length : Int) := by omega
      obtain ⟨ad, e, hx0, hx1, hx2, hx3⟩ := at_T33 HR.out (k : Int) p0 q0
      cases e
      rw [Int.toNat_natCast] at hx0 hx1 hx2 hx3
      replace hx0 := (HB.out.cell (World.block_lt_of_cell? w _ hx0)).trans hx0
      replace hx1 := (HB.out.cell (World.block_lt_of_cell? w _ hx1)).trans hx1
      replace hx2 := (HB.out.cell (World.block_lt_of_cell? w _ hx2)).trans hx2
      replace hx3 := (HB.out.cell (World.block_lt_of_cell? w _ hx3)).trans hx3
      have HS : Aside0 (cnt (l.take (k + 1)) = step (cnt (l.take k)) (rd_T33 l (k : Int))) := ⟨by rw [rd_take l k hlt, cnt_snoc]⟩
      generalize rd_T33 l (k : Int) = t at hx0 hx1 hx2 hx3 HS
      obtain ⟨x, h, p, s⟩ := t
      generalize cnt (l.take k) = q at hbd HS ⊢
      obtain ⟨q1, q2, q3, q4⟩ := q
      simp only at hx0 hx1 hx2 hx3 hbd ⊢
      cases h with
      | false =>
        have HS2 : Aside0 (cnt (l.take (k + 1)) = (q1, q2, q3 + 1, q4)) := ⟨by rw [HS.out]; simp [step]⟩
        have hb := refBrings_any wr x false p s
        simp only [Bool.false_and] at hb
        have HBR := Aside0.mk hb
        clear hb HS
        go_wp2_with (first | (go_at_call 23; refine (HBR.out).mono ?_; rintro e w1 ⟨rfl, hb⟩; have hy1 := (hb.cell (World.block_lt_of_cell? wr _ hx1)).trans hx1))
        go_roundw
        case rel => exact ⟨k + 1, by omega, by go_num, by rw [HS2.out], by rw [HS2.out], by rw [HS2.out], by rw [HS2.out], ⟨below_step HB.out hb⟩⟩
        case measure => simp [intOf]; omega
      | true =>
        cases hg : okp p with
        | true =>
          have HS2 : Aside0 (cnt (l.take (k + 1)) = (q1 + 1, q2, q3, p)) := ⟨by rw [HS.out]; simp [step, hg]⟩
          have hb := refBrings_any wr x true p s
          simp only [hg, brV, Bool.true_and, if_true] at hb
          have HBR := Aside0.mk hb
          clear hb HS hg
          go_wp2_with (first | (go_at_call 23; refine (HBR.out).mono ?_; rintro e w1 ⟨rfl, hb⟩; have hy1 := (hb.cell (World.block_lt_of_cell? wr _ hx1)).trans hx1))
          go_roundw
          case rel => exact ⟨k + 1, by omega, by go_num, by rw [HS2.out], by rw [HS2.out], by rw [HS2.out], by rw [HS2.out], ⟨below_step HB.out hb⟩⟩
          case measure => simp [intOf]; omega
        | false =>
          have HS2 : Aside0 (cnt (l.take (k + 1)) = (q1, q2 + 1, q3, q4)) := ⟨by rw [HS.out]; simp [step, hg]⟩
          have hb := refBrings_any wr x true p s
          simp only [hg, brV, Bool.true_and] at hb
          have HBR := Aside0.mk hb
          clear hb HS hg
          go_wp2_with (first | (go_at_call 23; refine (HBR.out).mono ?_; rintro e w1 ⟨rfl, hb⟩; have hy1 := (hb.cell (World.block_lt_of_cell? wr _ hx1)).trans hx1))
          go_roundw
          case rel => exact ⟨k + 1, by omega, by go_num, by rw [HS2.out], by rw [HS2.out], by rw [HS2.out], by rw [HS2.out], ⟨below_step HB.out hb⟩⟩
          case measure => simp [intOf]; omega
    · have e : l.take k = l := List.take_of_length_le (by omega)
      rw [e]
      clear e hbd
      go_wp2
      refine bodyPost_ret (results_tmp4 rfl _ _ _) rfl ?_
      exact ⟨rfl, HB.out⟩
end Go.Proofs.Ytoknlaknffpigaa.Bw
