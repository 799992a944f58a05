/- A part of the proof of the law TopNone of the top, where the package's tables hold what their initialisers lay. -/
import Derived.Laws.Externs
import Derived.Test.YtpdahkgandaabaaGreatDoorS01
import Derived.Test.YtpdahkgandaabaaGreatDoorS03
import Derived.Test.YtpdahkgandaabaaGreatDoorS04
namespace Go.Proofs.YtpdahkgandaabaaGreatDoor.Ch
open Go.RowKit Go.Proofs.YtpdahkgandaabaaGreatDoorW.PrintWords Go.Proofs.YtpdahkgandaabaaGreatDoorW.PrintLast Go.Proofs.YtpdahkgandaabaaGreatDoorW.PrintMore Go.Proofs.YtpdahkgandaabaaGreatDoor.PTopNames Go.Proofs.YtpdahkgandaabaaGreatDoor.Al
set_option linter.unusedVariables false
set_option linter.unusedSimpArgs false
def U (x : Int) : Prop := 0 ≤ x ∧ x < 18446744073709551616
theorem u_wrap (x : Int) : U (IntKind.u64.wrap x) := by
 show 0 ≤ x % 18446744073709551616 ∧ x % 18446744073709551616 < 18446744073709551616
 omega
def a64 (x y c : Int) : Int := ((x.toNat + y.toNat + c.toNat) % 18446744073709551616 : Nat)
def c64 (x y c : Int) : Int := ((x.toNat + y.toNat + c.toNat) / 18446744073709551616 : Nat)
def s64 (x y c : Int) : Int := ((x.toNat + 18446744073709551616 - y.toNat - c.toNat) % 18446744073709551616 : Nat)
def d64 (x y c : Int) : Int := ((if x.toNat < y.toNat + c.toNat then 1 else 0 : Nat) : Int)
theorem a64_u (x y c : Int) : U (a64 x y c) := by unfold a64 U; omega
theorem s64_u (x y c : Int) : U (s64 x y c) := by unfold s64 U; omega
theorem c64_in {x y c : Int} (hx : U x) (hy : U y) (hc : c.toNat ≤ 1) : (c64 x y c).toNat ≤ 1 := by
 unfold c64 U at *
 omega
theorem d64_in (x y c : Int) : (d64 x y c).toNat ≤ 1 := by unfold d64; split <;> decide
def sub64E : Array Value → Sem Value := fun args => do
 let (x, y, b) ← Extern.MathBitsCarry.three "Sub64" args
 pure (Extern.MathBitsCarry.pair ((x + Extern.MathBitsCarry.m64 - y - b) % Extern.MathBitsCarry.m64) (if x < y + b then 1 else 0))
theorem nat01 {c : Nat} (h : c ≤ 1) : c = 0 ∨ c = 1 := by omega
theorem add64_run (x y c : Int) (hc : c.toNat ≤ 1) (w : World) :
  (callFunc 149 #[.int .u64 x, .int .u64 y, .int .u64 c]).run Tryz.prog w = .ok (.value (.tuple #[.int .u64 (a64 x y c), .int .u64 (c64 x y c)])) w := by
 have key : (add64Entry #[.int .u64 x, .int .u64 y, .int .u64 c]).run Tryz.prog w = .ok (.tuple #[.int .u64 (a64 x y c), .int .u64 (c64 x y c)]) w := by
  unfold a64 c64
  show ((do
   let c' := c.toNat
   if c' > 1 then unsupported _
   pure (x.toNat, y.toNat, c') : Sem (Nat × Nat × Nat)) >>= _).run Tryz.prog w = _
  rw [Sem.run_bind]
  rcases nat01 hc with h | h <;> rw [h] <;> rfl
 rw [run_callFunc_extern Tryz.func149 (by kernel_rfl) (by kernel_rfl) (by kernel_rfl) (e := add64Entry) (by kernel_rfl), key]
 rfl
theorem sub64_run (x y c : Int) (hc : c.toNat ≤ 1) (w : World) :
  (callFunc 153 #[.int .u64 x, .int .u64 y, .int .u64 c]).run Tryz.prog w = .ok (.value (.tuple #[.int .u64 (s64 x y c), .int .u64 (d64 x y c)])) w := by
 have key : (sub64E #[.int .u64 x, .int .u64 y, .int .u64 c]).run Tryz.prog w = .ok (.tuple #[.int .u64 (s64 x y c), .int .u64 (d64 x y c)]) w := by
  unfold s64 d64
  show ((do
   let c' := c.toNat
   if c' > 1 then unsupported _
   pure (x.toNat, y.toNat, c') : Sem (Nat × Nat × Nat)) >>= _).run Tryz.prog w = _
  rw [Sem.run_bind]
  rcases nat01 hc with h | h <;> rw [h] <;> rfl
 rw [run_callFunc_extern Tryz.func153 (by kernel_rfl) (by kernel_rfl) (by kernel_rfl) (e := sub64E) (by kernel_rfl), key]
 rfl
def wide (h l : Int) : Value := .agg #[.int .i64 h, .int .u64 l]
theorem blocks3' (w : World) (x y z : Array Value) (t s r : TypeId) : (((w.alloc (.cells x t)).alloc (.cells y s)).alloc (.cells z r)).heap[w.heap.size + 1 + 1]? = some (.cells z r (0, 0)) ∧ Below w.heap.size w (((w.alloc (.cells x t)).alloc (.cells y s)).alloc (.cells z r)) := by
 obtain ⟨h1, h2, h3⟩ := blocks2 w x y t s
 have h := blk_new ((w.alloc (.cells x t)).alloc (.cells y s)) (.cells z r)
 rw [size1, size1] at h
 exact ⟨h, below_alloc h3 _⟩
set_option maxRecDepth 100000 in
set_option maxHeartbeats 4000000 in
theorem plus_tells (a b c d : Int) (hb : U b) (hd : U d) : ∃ h l, U l ∧ Tells 123 #[wide a b, wide c d] (wide h l) := by
 refine ⟨wrap64 (a64 (IntKind.u64.wrap a) (IntKind.u64.wrap c) (c64 b d 0)), _, a64_u b d 0, fun w hG => ?_⟩
 ·
  have r1 := add64_run b d 0 (by decide)
  have r2 := add64_run (IntKind.u64.wrap a) (IntKind.u64.wrap c) (c64 b d 0) (c64_in hb hd (by decide))
  have hB := (blocks3' w #[.int .i64 a, .int .u64 b] #[.int .i64 c, .int .u64 d] #[.int .i64 0, .int .u64 0] 124 124 124)
  unfold wide
  go_enter Tryz.func123, Tryz.ntmps123
  go_wp2_with fail
  refine bodyPost_ret (results_cell_row rfl _ _ (w.heap.size + 1 + 1) 124 _ (0, 0) _ rfl (blocks3' w _ _ _ 124 124 124).1 Tryz.underlying124 rfl (by kernel_rfl)) rfl ⟨rfl, (blocks3' w _ _ _ 124 124 124).2⟩
set_option maxRecDepth 100000 in
set_option maxHeartbeats 4000000 in
theorem less_tells (a b c d : Int) (hb : U b) (hd : U d) : ∃ h l, U l ∧ Tells 133 #[wide a b, wide c d] (wide h l) := by
 refine ⟨wrap64 (s64 (IntKind.u64.wrap a) (IntKind.u64.wrap c) (d64 b d 0)), _, s64_u b d 0, fun w hG => ?_⟩
 ·
  have r1 := sub64_run b d 0 (by decide)
  have r2 := sub64_run (IntKind.u64.wrap a) (IntKind.u64.wrap c) (d64 b d 0) (d64_in _ _ _)
  have hB := (blocks3' w #[.int .i64 a, .int .u64 b] #[.int .i64 c, .int .u64 d] #[.int .i64 0, .int .u64 0] 124 124 124)
  unfold wide
  go_enter Tryz.func133, Tryz.ntmps133
  go_wp2_with fail
  refine bodyPost_ret (results_cell_row rfl _ _ (w.heap.size + 1 + 1) 124 _ (0, 0) _ rfl (blocks3' w _ _ _ 124 124 124).1 Tryz.underlying124 rfl (by kernel_rfl)) rfl ⟨rfl, (blocks3' w _ _ _ 124 124 124).2⟩
theorem of_tells (x : Int) : ∃ h l, U l ∧ Tells 79 #[.int .i64 x] (wide h l) := ⟨_, _, u_wrap x, fun w _ => wide_Of.calls x (x / 9223372036854775808) (IntKind.u64.wrap x) w rfl⟩
theorem int_some (h l : Int) : ∃ r e, wide_Int.f h l = some (r, e) := by
 unfold wide_Int.f wide_Of.f
 rw [Option.bind_some]
 split
 ·
  exact ⟨_, _, rfl⟩
 ·
  exact ⟨_, _, rfl⟩
theorem int_tells (h l : Int) : ∃ x e, Tells 80 #[wide h l] (Ch.two x e) := by
 obtain ⟨r, e, he⟩ := int_some h l
 exact ⟨r, e, fun w _ => wide_Int.calls h l r e w he⟩
theorem blocks3 (w : World) (x y z : Array Value) (t s r : TypeId) : (((w.alloc (.cells x t)).alloc (.cells y s)).alloc (.cells z r)).heap[w.heap.size]? = some (.cells x t (0, 0)) ∧ (((w.alloc (.cells x t)).alloc (.cells y s)).alloc (.cells z r)).heap[w.heap.size + 1]? = some (.cells y s (0, 0)) ∧
  (((w.alloc (.cells x t)).alloc (.cells y s)).alloc (.cells z r)).heap[w.heap.size + 1 + 1]? = some (.cells z r (0, 0)) ∧ Below w.heap.size w (((w.alloc (.cells x t)).alloc (.cells y s)).alloc (.cells z r)) :=
 ⟨blk_alloc (blocks2 w x y t s).1 _, blk_alloc (blocks2 w x y t s).2.1 _, (blocks3' w x y z t s r).1, (blocks3' w x y z t s r).2⟩
set_option maxRecDepth 100000 in
set_option maxHeartbeats 4000000 in
theorem wadd_tells (a b c d : Int) (hb : U b) (hd : U d) : ∃ h l e, U l ∧ Tells 130 #[wide a b, wide c d] (.tuple #[wide h l, .int .i64 e]) := by
 obtain ⟨h, l, hl, hp⟩ := plus_tells a b c d hb hd
 have HP := am hp
 clear hp hb hd
 unfold wide at HP ⊢
 by_cases h1 : a < 0
 ·
  have d1 : decide (a < 0) = true := decide_eq_true h1
  by_cases h2 : c < 0
  ·
   have d2 : decide (c < 0) = true := decide_eq_true h2
   by_cases h3 : h < 0
   ·
    have d3 : decide (h < 0) = true := decide_eq_true h3
    refine ⟨h, l, 0, hl, fun w hG => ?_⟩
    have HG := am hG
    clear hG
    go_enter Tryz.func130, Tryz.ntmps130
    go_upto_region 1 with fail
    obtain ⟨x2, x3, x4, hB⟩ := blocks3 w #[.int .i64 a, .int .u64 b] #[.int .i64 c, .int .u64 d] #[.int .i64 0, .int .u64 0] 124 124 124
    generalize ((w.alloc (.cells #[.int .i64 a, .int .u64 b] 124)).alloc (.cells #[.int .i64 c, .int .u64 d] 124)).alloc (.cells #[.int .i64 0, .int .u64 0] 124) = w1 at x2 x3 x4 hB ⊢
    obtain ⟨b2, h2⟩ : ∃ b, b = w.heap.size := ⟨_, rfl⟩
    obtain ⟨b3, h3⟩ : ∃ b, b = w.heap.size + 1 := ⟨_, rfl⟩
    obtain ⟨b4, h4⟩ : ∃ b, b = w.heap.size + 1 + 1 := ⟨_, rfl⟩
    have g4 : w.heap.size ≤ b4 := by omega
    rw [← h4, ← h3, ← h2]
    rw [← h4] at x4
    rw [← h3] at x3
    rw [← h2] at x2
    have HX2 := am x2
    have HX3 := am x3
    have HX4 := am x4
    have HB := am hB
    clear x2 x3 x4 hB h2 h3 h4
    have y20 := bcl HX2.out 0 rfl
    have y21 := bcl HX2.out 1 rfl
    have y30 := bcl HX3.out 0 rfl
    have y31 := bcl HX3.out 1 rfl
    go_wp2_with fail
    refine (HP.out w1 (HG.out.below HB.out)).mono ?_
    rintro e w2 ⟨rfl, hb⟩
    clear y20 y21 y30 y31
    go_upto_region 2 with fail
    have HY := am (blk_new w2 (.cells #[.int .i64 h, .int .u64 l] 124))
    replace HX2 := am (blk_alloc (blk_below HX2.out hb) (.cells #[.int .i64 h, .int .u64 l] 124))
    replace HX3 := am (blk_alloc (blk_below HX3.out hb) (.cells #[.int .i64 h, .int .u64 l] 124))
    replace HX4 := am (blk_alloc (blk_below HX4.out hb) (.cells #[.int .i64 h, .int .u64 l] 124))
    replace HB := am (below_alloc (below_step HB.out hb) (.cells #[.int .i64 h, .int .u64 l] 124))
    clear hb
    generalize w2.alloc (.cells #[.int .i64 h, .int .u64 l] 124) = w3 at HY HX2 HX3 HX4 HB ⊢
    generalize w2.heap.size = b6 at HY ⊢
    have y20 := bcl HX2.out 0 rfl
    have y30 := bcl HX3.out 0 rfl
    have y60 := bcl HY.out 0 rfl
    have y61 := bcl HY.out 1 rfl
    have y40 := bcl HX4.out 0 rfl
    have y41 := bcl HX4.out 1 rfl
    have f40 := bfz HX4.out 0
    have f41 := bfz HX4.out 1
    have hn := (HG.out.below HB.out).none0
    have hn1 := (HG.out.below HB.out).none1
    go_wp2_with fail
    refine bodyPost_ret (results_ct rfl _ _ b4 124 #[.int .i64 h, .int .u64 l] (0, 0) _ rfl (blk_set (blk_set HX4.out 0 (.int .i64 h)) 1 (.int .u64 l)) Tryz.underlying124 rfl (by kernel_rfl)) rfl ⟨rfl, (HB.out.setCell (p := ⟨b4, 0, none⟩) g4 _).setCell (p := ⟨b4, 1, none⟩) g4 _⟩
   ·
    have d3 : decide (h < 0) = false := decide_eq_false h3
    refine ⟨0, 0, 3, ⟨by decide, by decide⟩, fun w hG => ?_⟩
    have HG := am hG
    clear hG
    go_enter Tryz.func130, Tryz.ntmps130
    go_upto_region 1 with fail
    obtain ⟨x2, x3, x4, hB⟩ := blocks3 w #[.int .i64 a, .int .u64 b] #[.int .i64 c, .int .u64 d] #[.int .i64 0, .int .u64 0] 124 124 124
    generalize ((w.alloc (.cells #[.int .i64 a, .int .u64 b] 124)).alloc (.cells #[.int .i64 c, .int .u64 d] 124)).alloc (.cells #[.int .i64 0, .int .u64 0] 124) = w1 at x2 x3 x4 hB ⊢
    obtain ⟨b2, h2⟩ : ∃ b, b = w.heap.size := ⟨_, rfl⟩
    obtain ⟨b3, h3⟩ : ∃ b, b = w.heap.size + 1 := ⟨_, rfl⟩
    obtain ⟨b4, h4⟩ : ∃ b, b = w.heap.size + 1 + 1 := ⟨_, rfl⟩
    have g4 : w.heap.size ≤ b4 := by omega
    rw [← h4, ← h3, ← h2]
    rw [← h4] at x4
    rw [← h3] at x3
    rw [← h2] at x2
    have HX2 := am x2
    have HX3 := am x3
    have HX4 := am x4
    have HB := am hB
    clear x2 x3 x4 hB h2 h3 h4
    have y20 := bcl HX2.out 0 rfl
    have y21 := bcl HX2.out 1 rfl
    have y30 := bcl HX3.out 0 rfl
    have y31 := bcl HX3.out 1 rfl
    go_wp2_with fail
    refine (HP.out w1 (HG.out.below HB.out)).mono ?_
    rintro e w2 ⟨rfl, hb⟩
    clear y20 y21 y30 y31
    go_upto_region 2 with fail
    have HY := am (blk_new w2 (.cells #[.int .i64 h, .int .u64 l] 124))
    replace HX2 := am (blk_alloc (blk_below HX2.out hb) (.cells #[.int .i64 h, .int .u64 l] 124))
    replace HX3 := am (blk_alloc (blk_below HX3.out hb) (.cells #[.int .i64 h, .int .u64 l] 124))
    replace HX4 := am (blk_alloc (blk_below HX4.out hb) (.cells #[.int .i64 h, .int .u64 l] 124))
    replace HB := am (below_alloc (below_step HB.out hb) (.cells #[.int .i64 h, .int .u64 l] 124))
    clear hb
    generalize w2.alloc (.cells #[.int .i64 h, .int .u64 l] 124) = w3 at HY HX2 HX3 HX4 HB ⊢
    generalize w2.heap.size = b6 at HY ⊢
    have y20 := bcl HX2.out 0 rfl
    have y30 := bcl HX3.out 0 rfl
    have y60 := bcl HY.out 0 rfl
    have y61 := bcl HY.out 1 rfl
    have y40 := bcl HX4.out 0 rfl
    have y41 := bcl HX4.out 1 rfl
    have f40 := bfz HX4.out 0
    have f41 := bfz HX4.out 1
    have hn := (HG.out.below HB.out).none0
    have hn1 := (HG.out.below HB.out).none1
    go_wp2_with fail
    refine bodyPost_ret (results_ct rfl _ _ b4 124 #[.int .i64 0, .int .u64 0] (0, 0) _ rfl (blk_set (blk_set HX4.out 0 (.int .i64 0)) 1 (.int .u64 0)) Tryz.underlying124 rfl (by kernel_rfl)) rfl ⟨rfl, (HB.out.setCell (p := ⟨b4, 0, none⟩) g4 _).setCell (p := ⟨b4, 1, none⟩) g4 _⟩
  ·
   have d2 : decide (c < 0) = false := decide_eq_false h2
   refine ⟨h, l, 0, hl, fun w hG => ?_⟩
   have HG := am hG
   clear hG
   go_enter Tryz.func130, Tryz.ntmps130
   go_upto_region 1 with fail
   obtain ⟨x2, x3, x4, hB⟩ := blocks3 w #[.int .i64 a, .int .u64 b] #[.int .i64 c, .int .u64 d] #[.int .i64 0, .int .u64 0] 124 124 124
   generalize ((w.alloc (.cells #[.int .i64 a, .int .u64 b] 124)).alloc (.cells #[.int .i64 c, .int .u64 d] 124)).alloc (.cells #[.int .i64 0, .int .u64 0] 124) = w1 at x2 x3 x4 hB ⊢
   obtain ⟨b2, h2⟩ : ∃ b, b = w.heap.size := ⟨_, rfl⟩
   obtain ⟨b3, h3⟩ : ∃ b, b = w.heap.size + 1 := ⟨_, rfl⟩
   obtain ⟨b4, h4⟩ : ∃ b, b = w.heap.size + 1 + 1 := ⟨_, rfl⟩
   have g4 : w.heap.size ≤ b4 := by omega
   rw [← h4, ← h3, ← h2]
   rw [← h4] at x4
   rw [← h3] at x3
   rw [← h2] at x2
   have HX2 := am x2
   have HX3 := am x3
   have HX4 := am x4
   have HB := am hB
   clear x2 x3 x4 hB h2 h3 h4
   have y20 := bcl HX2.out 0 rfl
   have y21 := bcl HX2.out 1 rfl
   have y30 := bcl HX3.out 0 rfl
   have y31 := bcl HX3.out 1 rfl
   go_wp2_with fail
   refine (HP.out w1 (HG.out.below HB.out)).mono ?_
   rintro e w2 ⟨rfl, hb⟩
   clear y20 y21 y30 y31
   go_upto_region 2 with fail
   have HY := am (blk_new w2 (.cells #[.int .i64 h, .int .u64 l] 124))
   replace HX2 := am (blk_alloc (blk_below HX2.out hb) (.cells #[.int .i64 h, .int .u64 l] 124))
   replace HX3 := am (blk_alloc (blk_below HX3.out hb) (.cells #[.int .i64 h, .int .u64 l] 124))
   replace HX4 := am (blk_alloc (blk_below HX4.out hb) (.cells #[.int .i64 h, .int .u64 l] 124))
   replace HB := am (below_alloc (below_step HB.out hb) (.cells #[.int .i64 h, .int .u64 l] 124))
   clear hb
   generalize w2.alloc (.cells #[.int .i64 h, .int .u64 l] 124) = w3 at HY HX2 HX3 HX4 HB ⊢
   generalize w2.heap.size = b6 at HY ⊢
   have y20 := bcl HX2.out 0 rfl
   have y30 := bcl HX3.out 0 rfl
   have y60 := bcl HY.out 0 rfl
   have y61 := bcl HY.out 1 rfl
   have y40 := bcl HX4.out 0 rfl
   have y41 := bcl HX4.out 1 rfl
   have f40 := bfz HX4.out 0
   have f41 := bfz HX4.out 1
   have hn := (HG.out.below HB.out).none0
   have hn1 := (HG.out.below HB.out).none1
   go_wp2_with fail
   refine bodyPost_ret (results_ct rfl _ _ b4 124 #[.int .i64 h, .int .u64 l] (0, 0) _ rfl (blk_set (blk_set HX4.out 0 (.int .i64 h)) 1 (.int .u64 l)) Tryz.underlying124 rfl (by kernel_rfl)) rfl ⟨rfl, (HB.out.setCell (p := ⟨b4, 0, none⟩) g4 _).setCell (p := ⟨b4, 1, none⟩) g4 _⟩
 ·
  have d1 : decide (a < 0) = false := decide_eq_false h1
  by_cases h2 : c < 0
  ·
   have d2 : decide (c < 0) = true := decide_eq_true h2
   refine ⟨h, l, 0, hl, fun w hG => ?_⟩
   have HG := am hG
   clear hG
   go_enter Tryz.func130, Tryz.ntmps130
   go_upto_region 1 with fail
   obtain ⟨x2, x3, x4, hB⟩ := blocks3 w #[.int .i64 a, .int .u64 b] #[.int .i64 c, .int .u64 d] #[.int .i64 0, .int .u64 0] 124 124 124
   generalize ((w.alloc (.cells #[.int .i64 a, .int .u64 b] 124)).alloc (.cells #[.int .i64 c, .int .u64 d] 124)).alloc (.cells #[.int .i64 0, .int .u64 0] 124) = w1 at x2 x3 x4 hB ⊢
   obtain ⟨b2, h2⟩ : ∃ b, b = w.heap.size := ⟨_, rfl⟩
   obtain ⟨b3, h3⟩ : ∃ b, b = w.heap.size + 1 := ⟨_, rfl⟩
   obtain ⟨b4, h4⟩ : ∃ b, b = w.heap.size + 1 + 1 := ⟨_, rfl⟩
   have g4 : w.heap.size ≤ b4 := by omega
   rw [← h4, ← h3, ← h2]
   rw [← h4] at x4
   rw [← h3] at x3
   rw [← h2] at x2
   have HX2 := am x2
   have HX3 := am x3
   have HX4 := am x4
   have HB := am hB
   clear x2 x3 x4 hB h2 h3 h4
   have y20 := bcl HX2.out 0 rfl
   have y21 := bcl HX2.out 1 rfl
   have y30 := bcl HX3.out 0 rfl
   have y31 := bcl HX3.out 1 rfl
   go_wp2_with fail
   refine (HP.out w1 (HG.out.below HB.out)).mono ?_
   rintro e w2 ⟨rfl, hb⟩
   clear y20 y21 y30 y31
   go_upto_region 2 with fail
   have HY := am (blk_new w2 (.cells #[.int .i64 h, .int .u64 l] 124))
   replace HX2 := am (blk_alloc (blk_below HX2.out hb) (.cells #[.int .i64 h, .int .u64 l] 124))
   replace HX3 := am (blk_alloc (blk_below HX3.out hb) (.cells #[.int .i64 h, .int .u64 l] 124))
   replace HX4 := am (blk_alloc (blk_below HX4.out hb) (.cells #[.int .i64 h, .int .u64 l] 124))
   replace HB := am (below_alloc (below_step HB.out hb) (.cells #[.int .i64 h, .int .u64 l] 124))
   clear hb
   generalize w2.alloc (.cells #[.int .i64 h, .int .u64 l] 124) = w3 at HY HX2 HX3 HX4 HB ⊢
   generalize w2.heap.size = b6 at HY ⊢
   have y20 := bcl HX2.out 0 rfl
   have y30 := bcl HX3.out 0 rfl
   have y60 := bcl HY.out 0 rfl
   have y61 := bcl HY.out 1 rfl
   have y40 := bcl HX4.out 0 rfl
   have y41 := bcl HX4.out 1 rfl
   have f40 := bfz HX4.out 0
   have f41 := bfz HX4.out 1
   have hn := (HG.out.below HB.out).none0
   have hn1 := (HG.out.below HB.out).none1
   go_wp2_with fail
   refine bodyPost_ret (results_ct rfl _ _ b4 124 #[.int .i64 h, .int .u64 l] (0, 0) _ rfl (blk_set (blk_set HX4.out 0 (.int .i64 h)) 1 (.int .u64 l)) Tryz.underlying124 rfl (by kernel_rfl)) rfl ⟨rfl, (HB.out.setCell (p := ⟨b4, 0, none⟩) g4 _).setCell (p := ⟨b4, 1, none⟩) g4 _⟩
  ·
   have d2 : decide (c < 0) = false := decide_eq_false h2
   by_cases h3 : h < 0
   ·
    have d3 : decide (h < 0) = true := decide_eq_true h3
    refine ⟨0, 0, 3, ⟨by decide, by decide⟩, fun w hG => ?_⟩
    have HG := am hG
    clear hG
    go_enter Tryz.func130, Tryz.ntmps130
    go_upto_region 1 with fail
    obtain ⟨x2, x3, x4, hB⟩ := blocks3 w #[.int .i64 a, .int .u64 b] #[.int .i64 c, .int .u64 d] #[.int .i64 0, .int .u64 0] 124 124 124
    generalize ((w.alloc (.cells #[.int .i64 a, .int .u64 b] 124)).alloc (.cells #[.int .i64 c, .int .u64 d] 124)).alloc (.cells #[.int .i64 0, .int .u64 0] 124) = w1 at x2 x3 x4 hB ⊢
    obtain ⟨b2, h2⟩ : ∃ b, b = w.heap.size := ⟨_, rfl⟩
    obtain ⟨b3, h3⟩ : ∃ b, b = w.heap.size + 1 := ⟨_, rfl⟩
    obtain ⟨b4, h4⟩ : ∃ b, b = w.heap.size + 1 + 1 := ⟨_, rfl⟩
    have g4 : w.heap.size ≤ b4 := by omega
    rw [← h4, ← h3, ← h2]
    rw [← h4] at x4
    rw [← h3] at x3
    rw [← h2] at x2
    have HX2 := am x2
    have HX3 := am x3
    have HX4 := am x4
    have HB := am hB
    clear x2 x3 x4 hB h2 h3 h4
    have y20 := bcl HX2.out 0 rfl
    have y21 := bcl HX2.out 1 rfl
    have y30 := bcl HX3.out 0 rfl
    have y31 := bcl HX3.out 1 rfl
    go_wp2_with fail
    refine (HP.out w1 (HG.out.below HB.out)).mono ?_
    rintro e w2 ⟨rfl, hb⟩
    clear y20 y21 y30 y31
    go_upto_region 2 with fail
    have HY := am (blk_new w2 (.cells #[.int .i64 h, .int .u64 l] 124))
    replace HX2 := am (blk_alloc (blk_below HX2.out hb) (.cells #[.int .i64 h, .int .u64 l] 124))
    replace HX3 := am (blk_alloc (blk_below HX3.out hb) (.cells #[.int .i64 h, .int .u64 l] 124))
    replace HX4 := am (blk_alloc (blk_below HX4.out hb) (.cells #[.int .i64 h, .int .u64 l] 124))
    replace HB := am (below_alloc (below_step HB.out hb) (.cells #[.int .i64 h, .int .u64 l] 124))
    clear hb
    generalize w2.alloc (.cells #[.int .i64 h, .int .u64 l] 124) = w3 at HY HX2 HX3 HX4 HB ⊢
    generalize w2.heap.size = b6 at HY ⊢
    have y20 := bcl HX2.out 0 rfl
    have y30 := bcl HX3.out 0 rfl
    have y60 := bcl HY.out 0 rfl
    have y61 := bcl HY.out 1 rfl
    have y40 := bcl HX4.out 0 rfl
    have y41 := bcl HX4.out 1 rfl
    have f40 := bfz HX4.out 0
    have f41 := bfz HX4.out 1
    have hn := (HG.out.below HB.out).none0
    have hn1 := (HG.out.below HB.out).none1
    go_wp2_with fail
    refine bodyPost_ret (results_ct rfl _ _ b4 124 #[.int .i64 0, .int .u64 0] (0, 0) _ rfl (blk_set (blk_set HX4.out 0 (.int .i64 0)) 1 (.int .u64 0)) Tryz.underlying124 rfl (by kernel_rfl)) rfl ⟨rfl, (HB.out.setCell (p := ⟨b4, 0, none⟩) g4 _).setCell (p := ⟨b4, 1, none⟩) g4 _⟩
   ·
    have d3 : decide (h < 0) = false := decide_eq_false h3
    refine ⟨h, l, 0, hl, fun w hG => ?_⟩
    have HG := am hG
    clear hG
    go_enter Tryz.func130, Tryz.ntmps130
    go_upto_region 1 with fail
    obtain ⟨x2, x3, x4, hB⟩ := blocks3 w #[.int .i64 a, .int .u64 b] #[.int .i64 c, .int .u64 d] #[.int .i64 0, .int .u64 0] 124 124 124
    generalize ((w.alloc (.cells #[.int .i64 a, .int .u64 b] 124)).alloc (.cells #[.int .i64 c, .int .u64 d] 124)).alloc (.cells #[.int .i64 0, .int .u64 0] 124) = w1 at x2 x3 x4 hB ⊢
    obtain ⟨b2, h2⟩ : ∃ b, b = w.heap.size := ⟨_, rfl⟩
    obtain ⟨b3, h3⟩ : ∃ b, b = w.heap.size + 1 := ⟨_, rfl⟩
    obtain ⟨b4, h4⟩ : ∃ b, b = w.heap.size + 1 + 1 := ⟨_, rfl⟩
    have g4 : w.heap.size ≤ b4 := by omega
    rw [← h4, ← h3, ← h2]
    rw [← h4] at x4
    rw [← h3] at x3
    rw [← h2] at x2
    have HX2 := am x2
    have HX3 := am x3
    have HX4 := am x4
    have HB := am hB
    clear x2 x3 x4 hB h2 h3 h4
    have y20 := bcl HX2.out 0 rfl
    have y21 := bcl HX2.out 1 rfl
    have y30 := bcl HX3.out 0 rfl
    have y31 := bcl HX3.out 1 rfl
    go_wp2_with fail
    refine (HP.out w1 (HG.out.below HB.out)).mono ?_
    rintro e w2 ⟨rfl, hb⟩
    clear y20 y21 y30 y31
    go_upto_region 2 with fail
    have HY := am (blk_new w2 (.cells #[.int .i64 h, .int .u64 l] 124))
    replace HX2 := am (blk_alloc (blk_below HX2.out hb) (.cells #[.int .i64 h, .int .u64 l] 124))
    replace HX3 := am (blk_alloc (blk_below HX3.out hb) (.cells #[.int .i64 h, .int .u64 l] 124))
    replace HX4 := am (blk_alloc (blk_below HX4.out hb) (.cells #[.int .i64 h, .int .u64 l] 124))
    replace HB := am (below_alloc (below_step HB.out hb) (.cells #[.int .i64 h, .int .u64 l] 124))
    clear hb
    generalize w2.alloc (.cells #[.int .i64 h, .int .u64 l] 124) = w3 at HY HX2 HX3 HX4 HB ⊢
    generalize w2.heap.size = b6 at HY ⊢
    have y20 := bcl HX2.out 0 rfl
    have y30 := bcl HX3.out 0 rfl
    have y60 := bcl HY.out 0 rfl
    have y61 := bcl HY.out 1 rfl
    have y40 := bcl HX4.out 0 rfl
    have y41 := bcl HX4.out 1 rfl
    have f40 := bfz HX4.out 0
    have f41 := bfz HX4.out 1
    have hn := (HG.out.below HB.out).none0
    have hn1 := (HG.out.below HB.out).none1
    go_wp2_with fail
    refine bodyPost_ret (results_ct rfl _ _ b4 124 #[.int .i64 h, .int .u64 l] (0, 0) _ rfl (blk_set (blk_set HX4.out 0 (.int .i64 h)) 1 (.int .u64 l)) Tryz.underlying124 rfl (by kernel_rfl)) rfl ⟨rfl, (HB.out.setCell (p := ⟨b4, 0, none⟩) g4 _).setCell (p := ⟨b4, 1, none⟩) g4 _⟩
end Go.Proofs.YtpdahkgandaabaaGreatDoor.Ch
