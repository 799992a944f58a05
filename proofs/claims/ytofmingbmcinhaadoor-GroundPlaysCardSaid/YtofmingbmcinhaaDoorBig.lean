/- The document's whole numbers of any size (layer 1): the walks of its cut, natural, Of. -/
import Derived.Test.YtofmingbmcinhaaDoorBigPlain
import Derived.Deep.Cut
import Derived.Deep.CutRange
namespace Go.Proofs.YtofmingbmcinhaaDoor.Bg
open Go.RowKit Go.Proofs.YtofmingbmcinhaaDoorW.PrintWords Go.Proofs.YtofmingbmcinhaaDoorW.PrintLast Go.Proofs.YtofmingbmcinhaaDoorW.PrintMore Go.Proofs.YtofmingbmcinhaaDoor.PGroundPlays
set_option linter.unusedVariables false
set_option linter.unusedSimpArgs false

/-- A value that stands for a whole number, in a world. -/
def IsBig (w : World) (v : Value) (z : Int) : Prop := ∃ (neg : Bool) (l : List Int) (A : Option Addr) (c : Nat), v = .agg #[.bool neg, .slice A l.length c] ∧ Kd.C (Kd.int .u64) w A l.length l ∧ l.length ≤ c ∧ Dg l ∧ Norm l ∧
  z = (if neg then - val l else val l) ∧ (neg = true → 0 < val l)
theorem IsBig.below {w w' : World} {v : Value} {z : Int} (h : IsBig w v z) (hb : Below w.heap.size w w') : IsBig w' v z := by
  obtain ⟨neg, l, A, c, e, hC, rest⟩ := h
  exact ⟨neg, l, A, c, e, Kd.C_below hC hb, rest⟩

theorem rdu (l : List Int) (i : Int) : rdOf (0 : Int) l i = rd l i := rfl

theorem two_set {w0 W : World} {b : Nat} (h : W.heap[b]? = some (.cells #[.bool false, .slice none 0 0] 55 (0, 0))) (x y : Value) (hb : w0.heap.size ≤ b) (hB : Below w0.heap.size w0 W) :
    ((W.setCell ⟨b, 0, none⟩ x).setCell ⟨b, 1, none⟩ y).heap[b]? = some (.cells #[x, y] 55 (0, 0)) ∧ Below w0.heap.size w0 ((W.setCell ⟨b, 0, none⟩ x).setCell ⟨b, 1, none⟩ y) :=
  ⟨by simpa using blk_set (blk_set h 0 x) 1 y, (hB.setCell (p := ⟨b, 0, none⟩) hb x).setCell (p := ⟨b, 1, none⟩) hb y⟩

set_option maxRecDepth 100000 in
set_option maxHeartbeats 4000000 in
theorem cut_any (w : World) (neg : Bool) (A : Option Addr) (c : Nat) (xs : List Int) (hr : Kd.C (Kd.int .u64) w A xs.length xs) (hc : xs.length ≤ c) (hd : Dg xs) (hl : xs.length ≤ 2000) :
    Calls Tryd.prog 31 #[.bool neg, .slice A xs.length c] w fun e w' => ∃ v, e = .returned v ∧ IsBig w' v (if neg then - val xs else val xs) ∧ Below w.heap.size w w' := by
  have HR := Aside0.mk hr
  have HD := Aside0.mk hd
  have HC := Aside0.mk hc
  clear hr hd hc
  go_enter Tryd.func31, Tryd.ntmps31
  go_wp2_with fail
  have HX := Aside0.mk (blk_new w (.cells #[.bool false, .slice none 0 0] 55))
  have HB := Aside0.mk (below_alloc (Below.refl w.heap.size w) (.cells #[.bool false, .slice none 0 0] 55))
  obtain ⟨b, hb⟩ : ∃ b, b = w.heap.size := ⟨_, rfl⟩
  have hbb : w.heap.size ≤ b := by omega
  rw [← hb] at HX ⊢
  clear hb
  generalize w.alloc (.cells #[.bool false, .slice none 0 0] 55) = w1 at HX HB ⊢
  go_loopw [5] (fun v5 wr => ∃ k : Nat, k ≤ xs.length ∧ v5 = .int .i64 k ∧ Aside0 (val (xs.take k) = val xs) ∧ Aside0 (wr.heap[b]? = some (.cells #[.bool false, .slice none 0 0] 55 (0, 0))) ∧ Aside0 (Below w.heap.size w wr)) (fun v5 _ => (intOf v5).toNat)
  case atStart => exact ⟨xs.length, Nat.le_refl _, rfl, ⟨by rw [List.take_length]⟩, HX, HB⟩
  case round =>
    clear HX HB
    obtain ⟨k, hk, rfl, HV, HX, HB⟩ := hrel
    have fin : ∀ n : Nat, n ≤ xs.length → (∀ m, n = m + 1 → rd xs (m : Int) ≠ 0) → Aside0 (val (xs.take n) = val xs) → Norm (xs.take n) := fun n hn h _ => norm_take hn h
    have c0 : wr.cell? ⟨b, 0, none⟩ = some (.bool false) := (blk_cell HX.out 0).trans rfl
    have c1 : wr.cell? ⟨b, 1, none⟩ = some (.slice none 0 0) := (blk_cell HX.out 1).trans rfl
    have f0 := blk_frozen HX.out 0
    have f1 := blk_frozen HX.out 1
    cases k with
    | zero =>
      have HV0 := Aside0.mk (show val xs = 0 by have := HV.out; simpa [val] using this.symm)
      have hx0 : Kd.C (Kd.int .u64) w A (xs.take 0).length (xs.take 0) := Kd.C_take HR.out (Nat.zero_le _)
      have HC0 := Aside0.mk hx0
      clear hx0 HV
      cases neg
      all_goals
        go_wp2_with fail
        obtain ⟨q, qb⟩ := two_set HX.out (.bool false) (.slice A 0 c) hbb HB.out
        generalize (wr.setCell ⟨b, 0, none⟩ (.bool false)).setCell ⟨b, 1, none⟩ (.slice A 0 c) = W at q qb ⊢
        have r0 : W.cell? ⟨b, 0, none⟩ = some (.bool false) := (blk_cell q 0).trans rfl
        have r1 : W.cell? ⟨b, 1, none⟩ = some (.slice A 0 c) := (blk_cell q 1).trans rfl
        clear c0 c1 f0 f1
        refine ⟨rfl, .agg #[.bool false, .slice A 0 c], ?_, _, rfl, ⟨false, [], A, c, rfl, Kd.C_below HC0.out qb, Nat.zero_le _, Dg.nil, fun n h => by simp at h, ?_, fun h => by cases h⟩, qb⟩
        · simp [results, Tryd.results31, go_sem, r0, r1]
        · simp [HV0.out, val]
    | succ m =>
      have e0 : (((m + 1 : Nat) : Int) - 1) = (m : Int) := by omega
      have p0 : (0 : Int) ≤ (m : Int) := Int.natCast_nonneg _
      have q0 : (m : Int) < (xs.length : Int) := by omega
      obtain ⟨ad, rfl, hx⟩ := Kd.at_int (Kd.C_below HR.out HB.out) (m : Int) p0 q0
      rw [Int.toNat_natCast] at hx
      obtain ⟨z, hz⟩ : ∃ z : Int, z = ((m + 1 : Nat) : Int) := ⟨_, rfl⟩
      rw [← hz]
      have z1 : decide (0 < z) = true := decide_eq_true (by omega)
      have z2 : z - 1 = (m : Int) := by omega
      have z3 : wrap64 (m : Int) = m := w64 (by omega) (by omega)
      have HZ := Aside0.mk hz
      clear hz e0
      by_cases h0 : rd xs (m : Int) = 0
      · have h1 : (rd xs (m : Int) == 0) = true := by rw [h0]; rfl
        have h2 : decide (rd xs (m : Int) = 0) = true := decide_eq_true h0
        have HV2 := Aside0.mk ((take_step xs m (by omega) h0).symm.trans HV.out)
        clear h0
        go_wp2_with fail
        go_roundw
        case rel => exact ⟨m, by omega, rfl, HV2, HX, HB⟩
        case measure => have := HZ.out; simp [intOf]; omega
      · have h1 : (rd xs (m : Int) == 0) = false := by simpa using h0
        have h2 : decide (rd xs (m : Int) = 0) = false := decide_eq_false h0
        have hN := Aside0.mk (fin (m + 1) hk (fun m' e => by cases e; exact h0) HV)
        have hv := HV.out
        have hx0 : Kd.C (Kd.int .u64) w (some ad) (xs.take (m + 1)).length (xs.take (m + 1)) := Kd.C_take HR.out hk
        have hlen : (xs.take (m + 1)).length = m + 1 := by rw [List.length_take]; omega
        obtain ⟨ys, hys⟩ : ∃ ys, ys = xs.take (m + 1) := ⟨_, rfl⟩
        have hdy : Dg ys := by rw [hys]; exact HD.out.take _
        rw [← hys] at hx0 hv hlen hN
        have hpos : 0 < val ys := by
          have := top_pos hdy hN.out 0 (by omega)
          simpa using this
        have HC0 := Aside0.mk hx0
        have HV0 := Aside0.mk hv
        have HDY := Aside0.mk hdy
        have HPO := Aside0.mk hpos
        have HLE := Aside0.mk hlen
        have zc : decide (z ≤ (c : Int)) = true := decide_eq_true (by have := HZ.out; have := HC.out; omega)
        have zn : z.toNat = m + 1 := by have := HZ.out; omega
        have zp : decide (0 ≤ z) = true := decide_eq_true (by have := HZ.out; omega)
        have zq := eq_true (of_decide_eq_true zp)
        have zd := eq_true (of_decide_eq_true zc)
        clear hx0 hv HV hys hlen hpos hdy
        cases neg
        · go_wp2_with fail
          obtain ⟨q, qb⟩ := two_set HX.out (.bool false) (.slice (some ad) (m + 1) c) hbb HB.out
          generalize (wr.setCell ⟨b, 0, none⟩ (.bool false)).setCell ⟨b, 1, none⟩ (.slice (some ad) (m + 1) c) = W at q qb ⊢
          have r0 : W.cell? ⟨b, 0, none⟩ = some (.bool false) := (blk_cell q 0).trans rfl
          have r1 : W.cell? ⟨b, 1, none⟩ = some (.slice (some ad) (m + 1) c) := (blk_cell q 1).trans rfl
          clear c0 c1 f0 f1
          refine ⟨rfl, .agg #[.bool false, .slice (some ad) (m + 1) c], ?_, _, rfl, ⟨false, ys, some ad, c, by rw [HLE.out], Kd.C_below HC0.out qb, by have := HC.out; have := HLE.out; omega, HDY.out, hN.out, ?_, fun _ => HPO.out⟩, qb⟩
          · simp [results, Tryd.results31, go_sem, r0, r1]
          · simp [HV0.out]
        · go_wp2_with fail
          obtain ⟨q, qb⟩ := two_set HX.out (.bool true) (.slice (some ad) (m + 1) c) hbb HB.out
          generalize (wr.setCell ⟨b, 0, none⟩ (.bool true)).setCell ⟨b, 1, none⟩ (.slice (some ad) (m + 1) c) = W at q qb ⊢
          have r0 : W.cell? ⟨b, 0, none⟩ = some (.bool true) := (blk_cell q 0).trans rfl
          have r1 : W.cell? ⟨b, 1, none⟩ = some (.slice (some ad) (m + 1) c) := (blk_cell q 1).trans rfl
          clear c0 c1 f0 f1
          refine ⟨rfl, .agg #[.bool true, .slice (some ad) (m + 1) c], ?_, _, rfl, ⟨true, ys, some ad, c, by rw [HLE.out], Kd.C_below HC0.out qb, by have := HC.out; have := HLE.out; omega, HDY.out, hN.out, ?_, fun _ => HPO.out⟩, qb⟩
          · simp [results, Tryd.results31, go_sem, r0, r1]
          · simp [HV0.out]

theorem C_set {w : World} {A : Option Addr} {n : Nat} {xs : List Int} (h : Kd.C (Kd.int .u64) w A n xs) (p : Addr) (hp : ∀ z, w.cell? p ≠ some (.int .u64 z)) (u : Value) : Kd.C (Kd.int .u64) (w.setCell p u) A n xs := by
  obtain ⟨h1, h2, h3⟩ := h
  refine ⟨h1, h2, fun hn => ?_⟩
  obtain ⟨ad, e, hc⟩ := h3 hn
  refine ⟨ad, e, fun j q hj => ?_⟩
  obtain ⟨cs, hl, hk, hcell⟩ := hc j q hj
  have hk' : cs = [.int .u64 q] := hk
  subst hk'
  refine ⟨_, hl, rfl, fun i u' hu => ?_⟩
  have hu2 : u' = .int .u64 q := by
    cases i with
    | zero => simpa using hu.symm
    | succ i => simp at hu
  subst hu2
  rw [World.cell?_setCell_other (h := fun e => hp q (by rw [e]; exact hcell i _ hu))]
  exact hcell i _ hu
theorem IsBig.set {w : World} {v : Value} {z : Int} (h : IsBig w v z) (p : Addr) (hp : ∀ z, w.cell? p ≠ some (.int .u64 z)) (u : Value) : IsBig (w.setCell p u) v z := by
  obtain ⟨neg, l, A, c, e, hC, rest⟩ := h
  exact ⟨neg, l, A, c, e, C_set hC p hp u, rest⟩
/-- A whole number is stored in a result's block. -/
theorem store_big {w0 W : World} {b : Nat} {ng : Bool} {s : Value} {z : Int} (hX : W.heap[b]? = some (.cells #[.bool false, .slice none 0 0] 55 (0, 0))) (hb : w0.heap.size ≤ b) (hB : Below w0.heap.size w0 W) (hv : IsBig W (.agg #[.bool ng, s]) z) :
    ((W.setCell ⟨b, 0, none⟩ (.bool ng)).setCell ⟨b, 1, none⟩ s).cell? ⟨b, 0, none⟩ = some (.bool ng) ∧ ((W.setCell ⟨b, 0, none⟩ (.bool ng)).setCell ⟨b, 1, none⟩ s).cell? ⟨b, 1, none⟩ = some s ∧
    IsBig ((W.setCell ⟨b, 0, none⟩ (.bool ng)).setCell ⟨b, 1, none⟩ s) (.agg #[.bool ng, s]) z ∧ Below w0.heap.size w0 ((W.setCell ⟨b, 0, none⟩ (.bool ng)).setCell ⟨b, 1, none⟩ s) := by
  obtain ⟨q, qb⟩ := two_set hX (.bool ng) s hb hB
  have c0 : W.cell? ⟨b, 0, none⟩ = some (.bool false) := (blk_cell hX 0).trans rfl
  have h1 := blk_set hX 0 (.bool ng)
  have c1 : (W.setCell ⟨b, 0, none⟩ (.bool ng)).cell? ⟨b, 1, none⟩ = some (.slice none 0 0) := (blk_cell h1 1).trans rfl
  refine ⟨(blk_cell q 0).trans rfl, (blk_cell q 1).trans rfl, (hv.set _ (fun z => by rw [c0]; simp) _).set _ (fun z => by rw [c1]; simp) _, qb⟩
theorem IsBig.form {w : World} {v : Value} {z : Int} (h : IsBig w v z) : ∃ ng A n c, v = .agg #[.bool ng, .slice A n c] := by
  obtain ⟨neg, l, A, c, e, _⟩ := h
  exact ⟨neg, A, l.length, c, e⟩
/-- The sign, and how long it may be. -/
theorem big_len {l : List Int} (hd : Dg l) (hn : Norm l) (hv : val l < 1208925819614629174706176) : l.length ≤ 5 := by
  rcases Nat.lt_or_ge 5 l.length with h | h
  · have t5 := top_pos hd hn 5 h
    have d0 : val l = rd l 0 + 65536 * val (l.drop 1) := val_drop l 0
    have d1 : val (l.drop 1) = rd l 1 + 65536 * val (l.drop 2) := val_drop l 1
    have d2 : val (l.drop 2) = rd l 2 + 65536 * val (l.drop 3) := val_drop l 2
    have d3 : val (l.drop 3) = rd l 3 + 65536 * val (l.drop 4) := val_drop l 3
    have d4 : val (l.drop 4) = rd l 4 + 65536 * val (l.drop 5) := val_drop l 4
    have g0 : 0 ≤ rd l 0 ∧ rd l 0 < 65536 := hd.rd 0
    have g1 : 0 ≤ rd l 1 ∧ rd l 1 < 65536 := hd.rd 1
    have g2 : 0 ≤ rd l 2 ∧ rd l 2 < 65536 := hd.rd 2
    have g3 : 0 ≤ rd l 3 ∧ rd l 3 < 65536 := hd.rd 3
    have g4 : 0 ≤ rd l 4 ∧ rd l 4 < 65536 := hd.rd 4
    omega
  · exact h
end Go.Proofs.YtofmingbmcinhaaDoor.Bg
