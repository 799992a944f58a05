/- A part of the proof of the law TopNone of the top, where the package's tables hold what their initialisers lay. -/
import Derived.OrdersIn
import Derived.RangeFuncNested
import Derived.RangeFuncBound
import Derived.RangeFuncBox
import Derived.RangeFuncCalls
import Derived.RangeFuncLeaves
import Derived.OwnWalkIn
import Derived.TacticsInMore
import Derived.WalkMore
import Derived.Test.YtpdahkgandaabaaGreatDoorS01
import Derived.Test.YtpdahkgandaabaaGreatDoorS09
namespace Go.Proofs.YtpdahkgandaabaaGreatDoor.Ch
open Go.RowKit Go.Proofs.YtpdahkgandaabaaGreatDoorW.PrintWords Go.Proofs.YtpdahkgandaabaaGreatDoorW.PrintLast Go.Proofs.YtpdahkgandaabaaGreatDoorW.PrintMore Go.Proofs.YtpdahkgandaabaaGreatDoor.PTopNames Go.Proofs.YtpdahkgandaabaaGreatDoor.Al
set_option linter.unusedVariables false
set_option linter.unusedSimpArgs false
set_option maxRecDepth 100000 in
set_option maxHeartbeats 4000000 in
theorem cross_tells (a b c d : Int) : ∃ x e, Tells 113 #[.int .i64 a, .int .i64 b, .int .i64 c, .int .i64 d] (Ch.two x e) := by
 obtain ⟨h0, l0, u0, t0⟩ := mul_tells a b
 obtain ⟨h1, l1, u1, t1⟩ := mul_tells c d
 obtain ⟨h2, l2, e2, u2, t2⟩ := wadd_tells h0 l0 h1 l1 u0 u1
 obtain ⟨h3, l3, u3, t3⟩ := half_tells h2 l2 40 u2 (by decide) (by decide)
 obtain ⟨x, e4, t4⟩ := int_tells h3 l3
 have H0 := am t0
 have H1 := am t1
 have H2 := am t2
 have H3 := am t3
 have H4 := am t4
 clear t0 t1 t2 t3 t4 u0 u1 u2 u3
 by_cases he : e4 = 0
 ·
  subst he
  cases hf : fits x with
  | true =>
   have HF := am hf
   clear hf
   refine ⟨x, 0, fun w hG => ?_⟩
   have HG := am hG
   clear hG
   unfold wide at H0 H1 H2 H3 H4
   unfold Ch.two at H4 ⊢
   go_enter Tryz.func113, Tryz.ntmps113
   go_wp2_with fail
   refine (H0.out w HG.out).mono ?_
   rintro e w1 ⟨rfl, hb⟩
   have HB := am hb
   clear hb
   go_wp2_with fail
   refine (H1.out w1 (HG.out.below HB.out)).mono ?_
   rintro e w2 ⟨rfl, hb⟩
   replace HB := am (below_step HB.out hb)
   clear hb
   go_wp2_with fail
   refine (H2.out w2 (HG.out.below HB.out)).mono ?_
   rintro e w3 ⟨rfl, hb⟩
   go_upto_region 2 with fail
   have HY := am (blk_new w3 (.cells #[.int .i64 h2, .int .u64 l2] 124))
   replace HB := am (below_alloc (below_step HB.out hb) (.cells #[.int .i64 h2, .int .u64 l2] 124))
   clear hb
   generalize w3.alloc (.cells #[.int .i64 h2, .int .u64 l2] 124) = w4 at HY HB ⊢
   generalize w3.heap.size = b10 at HY ⊢
   have y100 := bcl HY.out 0 rfl
   have y101 := bcl HY.out 1 rfl
   go_wp2_with fail
   refine (H3.out w4 (HG.out.below HB.out)).mono ?_
   rintro e w5 ⟨rfl, hb⟩
   clear y100 y101 HY
   go_upto_region 3 with fail
   have HY := am (blk_new w5 (.cells #[.int .i64 h3, .int .u64 l3] 124))
   replace HB := am (below_alloc (below_step HB.out hb) (.cells #[.int .i64 h3, .int .u64 l3] 124))
   clear hb
   generalize w5.alloc (.cells #[.int .i64 h3, .int .u64 l3] 124) = w6 at HY HB ⊢
   generalize w5.heap.size = b12 at HY ⊢
   have y120 := bcl HY.out 0 rfl
   have y121 := bcl HY.out 1 rfl
   go_wp2_with fail
   refine (H4.out w6 (HG.out.below HB.out)).mono ?_
   rintro e w7 ⟨rfl, hb⟩
   replace HB := am (below_step HB.out hb)
   clear hb y120 y121 HY
   go_wp2_with fail
   refine (fits_any w7 x).mono ?_
   rintro e w8 ⟨rfl, rfl⟩
   rw [HF.out]
   go_wp2_with fail
   go_ret2
   exact ⟨rfl, HB.out⟩
  | false =>
   have HF := am hf
   clear hf
   refine ⟨0, 3, fun w hG => ?_⟩
   have HG := am hG
   clear hG
   unfold wide at H0 H1 H2 H3 H4
   unfold Ch.two at H4 ⊢
   go_enter Tryz.func113, Tryz.ntmps113
   go_wp2_with fail
   refine (H0.out w HG.out).mono ?_
   rintro e w1 ⟨rfl, hb⟩
   have HB := am hb
   clear hb
   go_wp2_with fail
   refine (H1.out w1 (HG.out.below HB.out)).mono ?_
   rintro e w2 ⟨rfl, hb⟩
   replace HB := am (below_step HB.out hb)
   clear hb
   go_wp2_with fail
   refine (H2.out w2 (HG.out.below HB.out)).mono ?_
   rintro e w3 ⟨rfl, hb⟩
   go_upto_region 2 with fail
   have HY := am (blk_new w3 (.cells #[.int .i64 h2, .int .u64 l2] 124))
   replace HB := am (below_alloc (below_step HB.out hb) (.cells #[.int .i64 h2, .int .u64 l2] 124))
   clear hb
   generalize w3.alloc (.cells #[.int .i64 h2, .int .u64 l2] 124) = w4 at HY HB ⊢
   generalize w3.heap.size = b10 at HY ⊢
   have y100 := bcl HY.out 0 rfl
   have y101 := bcl HY.out 1 rfl
   go_wp2_with fail
   refine (H3.out w4 (HG.out.below HB.out)).mono ?_
   rintro e w5 ⟨rfl, hb⟩
   clear y100 y101 HY
   go_upto_region 3 with fail
   have HY := am (blk_new w5 (.cells #[.int .i64 h3, .int .u64 l3] 124))
   replace HB := am (below_alloc (below_step HB.out hb) (.cells #[.int .i64 h3, .int .u64 l3] 124))
   clear hb
   generalize w5.alloc (.cells #[.int .i64 h3, .int .u64 l3] 124) = w6 at HY HB ⊢
   generalize w5.heap.size = b12 at HY ⊢
   have y120 := bcl HY.out 0 rfl
   have y121 := bcl HY.out 1 rfl
   go_wp2_with fail
   refine (H4.out w6 (HG.out.below HB.out)).mono ?_
   rintro e w7 ⟨rfl, hb⟩
   replace HB := am (below_step HB.out hb)
   clear hb y120 y121 HY
   go_wp2_with fail
   refine (fits_any w7 x).mono ?_
   rintro e w8 ⟨rfl, rfl⟩
   rw [HF.out]
   go_wp2_with fail
   go_ret2
   exact ⟨rfl, HB.out⟩
 ·
  have q1 : (e4 == 0) = false := by simp [he]
  have q2 : decide (e4 = 0) = false := decide_eq_false he
  refine ⟨0, 3, fun w hG => ?_⟩
  have HG := am hG
  clear hG
  unfold wide at H0 H1 H2 H3 H4
  unfold Ch.two at H4 ⊢
  go_enter Tryz.func113, Tryz.ntmps113
  go_wp2_with fail
  refine (H0.out w HG.out).mono ?_
  rintro e w1 ⟨rfl, hb⟩
  have HB := am hb
  clear hb
  go_wp2_with fail
  refine (H1.out w1 (HG.out.below HB.out)).mono ?_
  rintro e w2 ⟨rfl, hb⟩
  replace HB := am (below_step HB.out hb)
  clear hb
  go_wp2_with fail
  refine (H2.out w2 (HG.out.below HB.out)).mono ?_
  rintro e w3 ⟨rfl, hb⟩
  go_upto_region 2 with fail
  have HY := am (blk_new w3 (.cells #[.int .i64 h2, .int .u64 l2] 124))
  replace HB := am (below_alloc (below_step HB.out hb) (.cells #[.int .i64 h2, .int .u64 l2] 124))
  clear hb
  generalize w3.alloc (.cells #[.int .i64 h2, .int .u64 l2] 124) = w4 at HY HB ⊢
  generalize w3.heap.size = b10 at HY ⊢
  have y100 := bcl HY.out 0 rfl
  have y101 := bcl HY.out 1 rfl
  go_wp2_with fail
  refine (H3.out w4 (HG.out.below HB.out)).mono ?_
  rintro e w5 ⟨rfl, hb⟩
  clear y100 y101 HY
  go_upto_region 3 with fail
  have HY := am (blk_new w5 (.cells #[.int .i64 h3, .int .u64 l3] 124))
  replace HB := am (below_alloc (below_step HB.out hb) (.cells #[.int .i64 h3, .int .u64 l3] 124))
  clear hb
  generalize w5.alloc (.cells #[.int .i64 h3, .int .u64 l3] 124) = w6 at HY HB ⊢
  generalize w5.heap.size = b12 at HY ⊢
  have y120 := bcl HY.out 0 rfl
  have y121 := bcl HY.out 1 rfl
  go_wp2_with fail
  refine (H4.out w6 (HG.out.below HB.out)).mono ?_
  rintro e w7 ⟨rfl, hb⟩
  replace HB := am (below_step HB.out hb)
  clear hb y120 y121 HY
  go_wp2_with fail
  go_ret2
  exact ⟨rfl, HB.out⟩
set_option maxRecDepth 100000 in
set_option maxHeartbeats 4000000 in
theorem state_tells (x0 x1 x2 k0 k1 k2 y : Int) : ∃ r0 r1 r2 e, Tells 75 #[vec x0 x1 x2, vec k0 k1 k2, .int .i64 y] (.tuple #[vec r0 r1 r2, .int .i64 e]) := by
 obtain ⟨kx, hx⟩ := vfits_tells x0 x1 x2
 obtain ⟨kk, hk⟩ := vfits_tells k0 k1 k2
 obtain ⟨d0, d1, d2, e1, hs⟩ := vscale_tells k0 k1 k2 y
 obtain ⟨r0, r1, r2, e2, ha⟩ := vadd_tells x0 x1 x2 d0 d1 d2
 have HX := am hx
 have HK := am hk
 have HS := am hs
 have HA := am ha
 clear hx hk hs ha
 cases kx with
 | false =>
  refine ⟨0, 0, 0, 1, fun w hG => ?_⟩
  have HG := am hG
  clear hG
  unfold vec at HX HK HS HA ⊢
  go_enter Tryz.func75, Tryz.ntmps75
  go_upto_region 1 with fail
  obtain ⟨x3', x4', x6', hB⟩ := blocks3 w #[.int .i64 x0, .int .i64 x1, .int .i64 x2] #[.int .i64 k0, .int .i64 k1, .int .i64 k2] #[.int .i64 0, .int .i64 0, .int .i64 0] 26 26 26
  generalize ((w.alloc (.cells #[.int .i64 x0, .int .i64 x1, .int .i64 x2] 26)).alloc (.cells #[.int .i64 k0, .int .i64 k1, .int .i64 k2] 26)).alloc (.cells #[.int .i64 0, .int .i64 0, .int .i64 0] 26) = w1 at x3' x4' x6' hB ⊢
  obtain ⟨b3, h3⟩ : ∃ b, b = w.heap.size := ⟨_, rfl⟩
  obtain ⟨b4, h4⟩ : ∃ b, b = w.heap.size + 1 := ⟨_, rfl⟩
  obtain ⟨b6, h6⟩ : ∃ b, b = w.heap.size + 1 + 1 := ⟨_, rfl⟩
  have g6 : w.heap.size ≤ b6 := by omega
  rw [← h6, ← h4, ← h3]
  rw [← h6] at x6'
  rw [← h4] at x4'
  rw [← h3] at x3'
  have H3 := am x3'
  have H4 := am x4'
  have H6 := am x6'
  have HB := am hB
  clear x3' x4' x6' hB h3 h4 h6
  have y30 := bcl H3.out 0 rfl
  have y31 := bcl H3.out 1 rfl
  have y32 := bcl H3.out 2 rfl
  go_wp2_with fail
  refine (HX.out w1 (HG.out.below HB.out)).mono ?_
  rintro e w2 ⟨rfl, hb⟩
  clear y30 y31 y32
  replace H3 := am (blk_below H3.out hb)
  replace H4 := am (blk_below H4.out hb)
  replace H6 := am (blk_below H6.out hb)
  replace HB := am (below_step HB.out hb)
  clear hb
  have y40 := bcl H4.out 0 rfl
  have y41 := bcl H4.out 1 rfl
  have y42 := bcl H4.out 2 rfl
  have y60 := bcl H6.out 0 rfl
  have f60 := bfz H6.out 0
  have y61 := bcl H6.out 1 rfl
  have f61 := bfz H6.out 1
  have y62 := bcl H6.out 2 rfl
  have f62 := bfz H6.out 2
  go_wp2_with fail
  obtain ⟨q, qb⟩ := three_set rfl H6.out g6 HB.out (.int .i64 0) (.int .i64 0) (.int .i64 0)
  exact bodyPost_ret (results_ct rfl _ _ b6 26 _ (0, 0) _ rfl q Tryz.underlying26 rfl (by kernel_rfl)) rfl ⟨rfl, qb⟩
 | true =>
  cases kk with
  | false =>
   refine ⟨0, 0, 0, 1, fun w hG => ?_⟩
   have HG := am hG
   clear hG
   unfold vec at HX HK HS HA ⊢
   go_enter Tryz.func75, Tryz.ntmps75
   go_upto_region 1 with fail
   obtain ⟨x3', x4', x6', hB⟩ := blocks3 w #[.int .i64 x0, .int .i64 x1, .int .i64 x2] #[.int .i64 k0, .int .i64 k1, .int .i64 k2] #[.int .i64 0, .int .i64 0, .int .i64 0] 26 26 26
   generalize ((w.alloc (.cells #[.int .i64 x0, .int .i64 x1, .int .i64 x2] 26)).alloc (.cells #[.int .i64 k0, .int .i64 k1, .int .i64 k2] 26)).alloc (.cells #[.int .i64 0, .int .i64 0, .int .i64 0] 26) = w1 at x3' x4' x6' hB ⊢
   obtain ⟨b3, h3⟩ : ∃ b, b = w.heap.size := ⟨_, rfl⟩
   obtain ⟨b4, h4⟩ : ∃ b, b = w.heap.size + 1 := ⟨_, rfl⟩
   obtain ⟨b6, h6⟩ : ∃ b, b = w.heap.size + 1 + 1 := ⟨_, rfl⟩
   have g6 : w.heap.size ≤ b6 := by omega
   rw [← h6, ← h4, ← h3]
   rw [← h6] at x6'
   rw [← h4] at x4'
   rw [← h3] at x3'
   have H3 := am x3'
   have H4 := am x4'
   have H6 := am x6'
   have HB := am hB
   clear x3' x4' x6' hB h3 h4 h6
   have y30 := bcl H3.out 0 rfl
   have y31 := bcl H3.out 1 rfl
   have y32 := bcl H3.out 2 rfl
   go_wp2_with fail
   refine (HX.out w1 (HG.out.below HB.out)).mono ?_
   rintro e w2 ⟨rfl, hb⟩
   clear y30 y31 y32
   replace H3 := am (blk_below H3.out hb)
   replace H4 := am (blk_below H4.out hb)
   replace H6 := am (blk_below H6.out hb)
   replace HB := am (below_step HB.out hb)
   clear hb
   have y40 := bcl H4.out 0 rfl
   have y41 := bcl H4.out 1 rfl
   have y42 := bcl H4.out 2 rfl
   have y60 := bcl H6.out 0 rfl
   have f60 := bfz H6.out 0
   have y61 := bcl H6.out 1 rfl
   have f61 := bfz H6.out 1
   have y62 := bcl H6.out 2 rfl
   have f62 := bfz H6.out 2
   go_wp2_with fail
   refine (HK.out w2 (HG.out.below HB.out)).mono ?_
   rintro e w3 ⟨rfl, hb⟩
   clear y40 y41 y42 y60 y61 y62 f60 f61 f62
   replace H3 := am (blk_below H3.out hb)
   replace H4 := am (blk_below H4.out hb)
   replace H6 := am (blk_below H6.out hb)
   replace HB := am (below_step HB.out hb)
   clear hb
   have y40 := bcl H4.out 0 rfl
   have y41 := bcl H4.out 1 rfl
   have y42 := bcl H4.out 2 rfl
   have y60 := bcl H6.out 0 rfl
   have f60 := bfz H6.out 0
   have y61 := bcl H6.out 1 rfl
   have f61 := bfz H6.out 1
   have y62 := bcl H6.out 2 rfl
   have f62 := bfz H6.out 2
   go_wp2_with fail
   obtain ⟨q, qb⟩ := three_set rfl H6.out g6 HB.out (.int .i64 0) (.int .i64 0) (.int .i64 0)
   exact bodyPost_ret (results_ct rfl _ _ b6 26 _ (0, 0) _ rfl q Tryz.underlying26 rfl (by kernel_rfl)) rfl ⟨rfl, qb⟩
  | true =>
   cases hy : fits y with
   | false =>
    have HY := am hy
    clear hy
    refine ⟨0, 0, 0, 1, fun w hG => ?_⟩
    have HG := am hG
    clear hG
    unfold vec at HX HK HS HA ⊢
    go_enter Tryz.func75, Tryz.ntmps75
    go_upto_region 1 with fail
    obtain ⟨x3', x4', x6', hB⟩ := blocks3 w #[.int .i64 x0, .int .i64 x1, .int .i64 x2] #[.int .i64 k0, .int .i64 k1, .int .i64 k2] #[.int .i64 0, .int .i64 0, .int .i64 0] 26 26 26
    generalize ((w.alloc (.cells #[.int .i64 x0, .int .i64 x1, .int .i64 x2] 26)).alloc (.cells #[.int .i64 k0, .int .i64 k1, .int .i64 k2] 26)).alloc (.cells #[.int .i64 0, .int .i64 0, .int .i64 0] 26) = w1 at x3' x4' x6' hB ⊢
    obtain ⟨b3, h3⟩ : ∃ b, b = w.heap.size := ⟨_, rfl⟩
    obtain ⟨b4, h4⟩ : ∃ b, b = w.heap.size + 1 := ⟨_, rfl⟩
    obtain ⟨b6, h6⟩ : ∃ b, b = w.heap.size + 1 + 1 := ⟨_, rfl⟩
    have g6 : w.heap.size ≤ b6 := by omega
    rw [← h6, ← h4, ← h3]
    rw [← h6] at x6'
    rw [← h4] at x4'
    rw [← h3] at x3'
    have H3 := am x3'
    have H4 := am x4'
    have H6 := am x6'
    have HB := am hB
    clear x3' x4' x6' hB h3 h4 h6
    have y30 := bcl H3.out 0 rfl
    have y31 := bcl H3.out 1 rfl
    have y32 := bcl H3.out 2 rfl
    go_wp2_with fail
    refine (HX.out w1 (HG.out.below HB.out)).mono ?_
    rintro e w2 ⟨rfl, hb⟩
    clear y30 y31 y32
    replace H3 := am (blk_below H3.out hb)
    replace H4 := am (blk_below H4.out hb)
    replace H6 := am (blk_below H6.out hb)
    replace HB := am (below_step HB.out hb)
    clear hb
    have y40 := bcl H4.out 0 rfl
    have y41 := bcl H4.out 1 rfl
    have y42 := bcl H4.out 2 rfl
    have y60 := bcl H6.out 0 rfl
    have f60 := bfz H6.out 0
    have y61 := bcl H6.out 1 rfl
    have f61 := bfz H6.out 1
    have y62 := bcl H6.out 2 rfl
    have f62 := bfz H6.out 2
    go_wp2_with fail
    refine (HK.out w2 (HG.out.below HB.out)).mono ?_
    rintro e w3 ⟨rfl, hb⟩
    clear y40 y41 y42 y60 y61 y62 f60 f61 f62
    replace H3 := am (blk_below H3.out hb)
    replace H4 := am (blk_below H4.out hb)
    replace H6 := am (blk_below H6.out hb)
    replace HB := am (below_step HB.out hb)
    clear hb
    have y40 := bcl H4.out 0 rfl
    have y41 := bcl H4.out 1 rfl
    have y42 := bcl H4.out 2 rfl
    have y60 := bcl H6.out 0 rfl
    have f60 := bfz H6.out 0
    have y61 := bcl H6.out 1 rfl
    have f61 := bfz H6.out 1
    have y62 := bcl H6.out 2 rfl
    have f62 := bfz H6.out 2
    go_wp2_with fail
    refine (fits_any w3 y).mono ?_
    rintro e w4 ⟨rfl, rfl⟩
    rw [HY.out]
    go_wp2_with fail
    obtain ⟨q, qb⟩ := three_set rfl H6.out g6 HB.out (.int .i64 0) (.int .i64 0) (.int .i64 0)
    exact bodyPost_ret (results_ct rfl _ _ b6 26 _ (0, 0) _ rfl q Tryz.underlying26 rfl (by kernel_rfl)) rfl ⟨rfl, qb⟩
   | true =>
    have HY := am hy
    clear hy
    by_cases h0 : e1 = 0
    ·
     subst h0
     refine ⟨r0, r1, r2, e2, fun w hG => ?_⟩
     have HG := am hG
     clear hG
     unfold vec at HX HK HS HA ⊢
     go_enter Tryz.func75, Tryz.ntmps75
     go_upto_region 1 with fail
     obtain ⟨x3', x4', x6', hB⟩ := blocks3 w #[.int .i64 x0, .int .i64 x1, .int .i64 x2] #[.int .i64 k0, .int .i64 k1, .int .i64 k2] #[.int .i64 0, .int .i64 0, .int .i64 0] 26 26 26
     generalize ((w.alloc (.cells #[.int .i64 x0, .int .i64 x1, .int .i64 x2] 26)).alloc (.cells #[.int .i64 k0, .int .i64 k1, .int .i64 k2] 26)).alloc (.cells #[.int .i64 0, .int .i64 0, .int .i64 0] 26) = w1 at x3' x4' x6' hB ⊢
     obtain ⟨b3, h3⟩ : ∃ b, b = w.heap.size := ⟨_, rfl⟩
     obtain ⟨b4, h4⟩ : ∃ b, b = w.heap.size + 1 := ⟨_, rfl⟩
     obtain ⟨b6, h6⟩ : ∃ b, b = w.heap.size + 1 + 1 := ⟨_, rfl⟩
     have g6 : w.heap.size ≤ b6 := by omega
     rw [← h6, ← h4, ← h3]
     rw [← h6] at x6'
     rw [← h4] at x4'
     rw [← h3] at x3'
     have H3 := am x3'
     have H4 := am x4'
     have H6 := am x6'
     have HB := am hB
     clear x3' x4' x6' hB h3 h4 h6
     have y30 := bcl H3.out 0 rfl
     have y31 := bcl H3.out 1 rfl
     have y32 := bcl H3.out 2 rfl
     go_wp2_with fail
     refine (HX.out w1 (HG.out.below HB.out)).mono ?_
     rintro e w2 ⟨rfl, hb⟩
     clear y30 y31 y32
     replace H3 := am (blk_below H3.out hb)
     replace H4 := am (blk_below H4.out hb)
     replace H6 := am (blk_below H6.out hb)
     replace HB := am (below_step HB.out hb)
     clear hb
     have y40 := bcl H4.out 0 rfl
     have y41 := bcl H4.out 1 rfl
     have y42 := bcl H4.out 2 rfl
     have y60 := bcl H6.out 0 rfl
     have f60 := bfz H6.out 0
     have y61 := bcl H6.out 1 rfl
     have f61 := bfz H6.out 1
     have y62 := bcl H6.out 2 rfl
     have f62 := bfz H6.out 2
     go_wp2_with fail
     refine (HK.out w2 (HG.out.below HB.out)).mono ?_
     rintro e w3 ⟨rfl, hb⟩
     clear y40 y41 y42 y60 y61 y62 f60 f61 f62
     replace H3 := am (blk_below H3.out hb)
     replace H4 := am (blk_below H4.out hb)
     replace H6 := am (blk_below H6.out hb)
     replace HB := am (below_step HB.out hb)
     clear hb
     have y40 := bcl H4.out 0 rfl
     have y41 := bcl H4.out 1 rfl
     have y42 := bcl H4.out 2 rfl
     have y60 := bcl H6.out 0 rfl
     have f60 := bfz H6.out 0
     have y61 := bcl H6.out 1 rfl
     have f61 := bfz H6.out 1
     have y62 := bcl H6.out 2 rfl
     have f62 := bfz H6.out 2
     go_wp2_with fail
     refine (fits_any w3 y).mono ?_
     rintro e w4 ⟨rfl, rfl⟩
     rw [HY.out]
     go_wp2_with fail
     refine (HS.out _ (HG.out.below HB.out)).mono ?_
     rintro e w5 ⟨rfl, hb⟩
     clear y40 y41 y42 y60 y61 y62 f60 f61 f62
     go_upto_region 4 with fail
     have HD := am (blk_new w5 (.cells #[.int .i64 d0, .int .i64 d1, .int .i64 d2] 26))
     replace H3 := am (blk_alloc (blk_below H3.out hb) (.cells #[.int .i64 d0, .int .i64 d1, .int .i64 d2] 26))
     replace H6 := am (blk_alloc (blk_below H6.out hb) (.cells #[.int .i64 d0, .int .i64 d1, .int .i64 d2] 26))
     replace HB := am (below_alloc (below_step HB.out hb) (.cells #[.int .i64 d0, .int .i64 d1, .int .i64 d2] 26))
     clear hb H4
     generalize w5.alloc (.cells #[.int .i64 d0, .int .i64 d1, .int .i64 d2] 26) = w6 at HD H3 H6 HB ⊢
     generalize w5.heap.size = b8 at HD ⊢
     have y30 := bcl H3.out 0 rfl
     have y31 := bcl H3.out 1 rfl
     have y32 := bcl H3.out 2 rfl
     have y80 := bcl HD.out 0 rfl
     have y81 := bcl HD.out 1 rfl
     have y82 := bcl HD.out 2 rfl
     go_wp2_with fail
     refine (HA.out w6 (HG.out.below HB.out)).mono ?_
     rintro e w7 ⟨rfl, hb⟩
     replace H6 := am (blk_below H6.out hb)
     replace HB := am (below_step HB.out hb)
     clear hb y30 y31 y32 y80 y81 y82
     have y60 := bcl H6.out 0 rfl
     have f60 := bfz H6.out 0
     have y61 := bcl H6.out 1 rfl
     have f61 := bfz H6.out 1
     have y62 := bcl H6.out 2 rfl
     have f62 := bfz H6.out 2
     go_wp2_with fail
     obtain ⟨q, qb⟩ := three_set rfl H6.out g6 HB.out (.int .i64 r0) (.int .i64 r1) (.int .i64 r2)
     exact bodyPost_ret (results_ct rfl _ _ b6 26 _ (0, 0) _ rfl q Tryz.underlying26 rfl (by kernel_rfl)) rfl ⟨rfl, qb⟩
    ·
     have q1 : (e1 == 0) = false := by simp [h0]
     have q2 : decide (e1 = 0) = false := decide_eq_false h0
     refine ⟨0, 0, 0, e1, fun w hG => ?_⟩
     have HG := am hG
     clear hG
     unfold vec at HX HK HS HA ⊢
     go_enter Tryz.func75, Tryz.ntmps75
     go_upto_region 1 with fail
     obtain ⟨x3', x4', x6', hB⟩ := blocks3 w #[.int .i64 x0, .int .i64 x1, .int .i64 x2] #[.int .i64 k0, .int .i64 k1, .int .i64 k2] #[.int .i64 0, .int .i64 0, .int .i64 0] 26 26 26
     generalize ((w.alloc (.cells #[.int .i64 x0, .int .i64 x1, .int .i64 x2] 26)).alloc (.cells #[.int .i64 k0, .int .i64 k1, .int .i64 k2] 26)).alloc (.cells #[.int .i64 0, .int .i64 0, .int .i64 0] 26) = w1 at x3' x4' x6' hB ⊢
     obtain ⟨b3, h3⟩ : ∃ b, b = w.heap.size := ⟨_, rfl⟩
     obtain ⟨b4, h4⟩ : ∃ b, b = w.heap.size + 1 := ⟨_, rfl⟩
     obtain ⟨b6, h6⟩ : ∃ b, b = w.heap.size + 1 + 1 := ⟨_, rfl⟩
     have g6 : w.heap.size ≤ b6 := by omega
     rw [← h6, ← h4, ← h3]
     rw [← h6] at x6'
     rw [← h4] at x4'
     rw [← h3] at x3'
     have H3 := am x3'
     have H4 := am x4'
     have H6 := am x6'
     have HB := am hB
     clear x3' x4' x6' hB h3 h4 h6
     have y30 := bcl H3.out 0 rfl
     have y31 := bcl H3.out 1 rfl
     have y32 := bcl H3.out 2 rfl
     go_wp2_with fail
     refine (HX.out w1 (HG.out.below HB.out)).mono ?_
     rintro e w2 ⟨rfl, hb⟩
     clear y30 y31 y32
     replace H3 := am (blk_below H3.out hb)
     replace H4 := am (blk_below H4.out hb)
     replace H6 := am (blk_below H6.out hb)
     replace HB := am (below_step HB.out hb)
     clear hb
     have y40 := bcl H4.out 0 rfl
     have y41 := bcl H4.out 1 rfl
     have y42 := bcl H4.out 2 rfl
     have y60 := bcl H6.out 0 rfl
     have f60 := bfz H6.out 0
     have y61 := bcl H6.out 1 rfl
     have f61 := bfz H6.out 1
     have y62 := bcl H6.out 2 rfl
     have f62 := bfz H6.out 2
     go_wp2_with fail
     refine (HK.out w2 (HG.out.below HB.out)).mono ?_
     rintro e w3 ⟨rfl, hb⟩
     clear y40 y41 y42 y60 y61 y62 f60 f61 f62
     replace H3 := am (blk_below H3.out hb)
     replace H4 := am (blk_below H4.out hb)
     replace H6 := am (blk_below H6.out hb)
     replace HB := am (below_step HB.out hb)
     clear hb
     have y40 := bcl H4.out 0 rfl
     have y41 := bcl H4.out 1 rfl
     have y42 := bcl H4.out 2 rfl
     have y60 := bcl H6.out 0 rfl
     have f60 := bfz H6.out 0
     have y61 := bcl H6.out 1 rfl
     have f61 := bfz H6.out 1
     have y62 := bcl H6.out 2 rfl
     have f62 := bfz H6.out 2
     go_wp2_with fail
     refine (fits_any w3 y).mono ?_
     rintro e w4 ⟨rfl, rfl⟩
     rw [HY.out]
     go_wp2_with fail
     refine (HS.out _ (HG.out.below HB.out)).mono ?_
     rintro e w5 ⟨rfl, hb⟩
     clear y40 y41 y42 y60 y61 y62 f60 f61 f62
     go_upto_region 4 with fail
     have HD := am (blk_new w5 (.cells #[.int .i64 d0, .int .i64 d1, .int .i64 d2] 26))
     replace H3 := am (blk_alloc (blk_below H3.out hb) (.cells #[.int .i64 d0, .int .i64 d1, .int .i64 d2] 26))
     replace H6 := am (blk_alloc (blk_below H6.out hb) (.cells #[.int .i64 d0, .int .i64 d1, .int .i64 d2] 26))
     replace HB := am (below_alloc (below_step HB.out hb) (.cells #[.int .i64 d0, .int .i64 d1, .int .i64 d2] 26))
     clear hb H4
     generalize w5.alloc (.cells #[.int .i64 d0, .int .i64 d1, .int .i64 d2] 26) = w6 at HD H3 H6 HB ⊢
     generalize w5.heap.size = b8 at HD ⊢
     have y60 := bcl H6.out 0 rfl
     have f60 := bfz H6.out 0
     have y61 := bcl H6.out 1 rfl
     have f61 := bfz H6.out 1
     have y62 := bcl H6.out 2 rfl
     have f62 := bfz H6.out 2
     go_wp2_with fail
     obtain ⟨q, qb⟩ := three_set rfl H6.out g6 HB.out (.int .i64 0) (.int .i64 0) (.int .i64 0)
     exact bodyPost_ret (results_ct rfl _ _ b6 26 _ (0, 0) _ rfl q Tryz.underlying26 rfl (by kernel_rfl)) rfl ⟨rfl, qb⟩
set_option maxRecDepth 100000 in
set_option maxHeartbeats 4000000 in
theorem look_tells (x0 x1 x2 p0 p1 p2 p3 p4 p5 z n : Int) : ∃ y s e, Tells 72 #[vec x0 x1 x2, sym p0 p1 p2 p3 p4 p5, .int .i64 z, .int .i64 n] (.tuple #[.int .i64 y, .int .i64 s, .int .i64 e]) := by
 obtain ⟨n0, n1, n2, n3, n4, n5, e0, hp⟩ := sadd_tells p0 p1 p2 p3 p4 p5 0 0 0 0 0 0
 obtain ⟨kx, hx⟩ := vfits_tells x0 x1 x2
 obtain ⟨y, e1, hs⟩ := sub_tells z x0
 obtain ⟨sp, e2, ha⟩ := add_tells p0 n
 have HP := am hp
 have HX := am hx
 have HS := am hs
 have HA := am ha
 clear hp hx hs ha
 by_cases h0 : e0 = 0
 ·
  subst h0
  cases kx with
  | false =>
   refine ⟨0, 0, 1, fun w hG => ?_⟩
   have HG := am hG
   clear hG
   unfold vec at HX ⊢
   unfold sym at HP ⊢
   unfold Ch.two at HS HA
   go_enter Tryz.func72, Tryz.ntmps72
   go_upto_region 1 with fail
   obtain ⟨x4, x5, hB⟩ := blocks2 w #[.int .i64 x0, .int .i64 x1, .int .i64 x2] #[.int .i64 p0, .int .i64 p1, .int .i64 p2, .int .i64 p3, .int .i64 p4, .int .i64 p5] 26 46
   generalize (w.alloc (.cells #[.int .i64 x0, .int .i64 x1, .int .i64 x2] 26)).alloc (.cells #[.int .i64 p0, .int .i64 p1, .int .i64 p2, .int .i64 p3, .int .i64 p4, .int .i64 p5] 46) = w1 at x4 x5 hB ⊢
   obtain ⟨b4, h4⟩ : ∃ b, b = w.heap.size := ⟨_, rfl⟩
   obtain ⟨b5, h5⟩ : ∃ b, b = w.heap.size + 1 := ⟨_, rfl⟩
   rw [← h5, ← h4]
   rw [← h5] at x5
   rw [← h4] at x4
   have H4 := am x4
   have H5 := am x5
   have HB := am hB
   clear x4 x5 hB h4 h5
   have y50 := bcl H5.out 0 rfl
   have y51 := bcl H5.out 1 rfl
   have y52 := bcl H5.out 2 rfl
   have y53 := bcl H5.out 3 rfl
   have y54 := bcl H5.out 4 rfl
   have y55 := bcl H5.out 5 rfl
   go_wp2_with fail
   refine (HP.out w1 (HG.out.below HB.out)).mono ?_
   rintro e w2 ⟨rfl, hb⟩
   clear y50 y51 y52 y53 y54 y55
   go_upto_region 2 with fail
   replace H4 := am (blk_alloc (blk_below H4.out hb) (.cells #[.int .i64 n0, .int .i64 n1, .int .i64 n2, .int .i64 n3, .int .i64 n4, .int .i64 n5] 46))
   replace H5 := am (blk_alloc (blk_below H5.out hb) (.cells #[.int .i64 n0, .int .i64 n1, .int .i64 n2, .int .i64 n3, .int .i64 n4, .int .i64 n5] 46))
   replace HB := am (below_alloc (below_step HB.out hb) (.cells #[.int .i64 n0, .int .i64 n1, .int .i64 n2, .int .i64 n3, .int .i64 n4, .int .i64 n5] 46))
   clear hb
   generalize w2.alloc (.cells #[.int .i64 n0, .int .i64 n1, .int .i64 n2, .int .i64 n3, .int .i64 n4, .int .i64 n5] 46) = w3 at H4 H5 HB ⊢
   generalize w2.heap.size = b11
   have y40 := bcl H4.out 0 rfl
   have y41 := bcl H4.out 1 rfl
   have y42 := bcl H4.out 2 rfl
   have y50 := bcl H5.out 0 rfl
   go_wp2_with fail
   refine (HX.out w3 (HG.out.below HB.out)).mono ?_
   rintro e w4 ⟨rfl, hb⟩
   clear y40 y41 y42 y50
   replace H4 := am (blk_below H4.out hb)
   replace H5 := am (blk_below H5.out hb)
   replace HB := am (below_step HB.out hb)
   clear hb
   have y40 := bcl H4.out 0 rfl
   have y50 := bcl H5.out 0 rfl
   go_wp2_with fail
   refine bodyPost_ret (results_tmp3 rfl _ _ _) rfl ?_
   exact ⟨rfl, HB.out⟩
  | true =>
   cases hz : fits z with
   | false =>
    have HZ := am hz
    clear hz
    refine ⟨0, 0, 1, fun w hG => ?_⟩
    have HG := am hG
    clear hG
    unfold vec at HX ⊢
    unfold sym at HP ⊢
    unfold Ch.two at HS HA
    go_enter Tryz.func72, Tryz.ntmps72
    go_upto_region 1 with fail
    obtain ⟨x4, x5, hB⟩ := blocks2 w #[.int .i64 x0, .int .i64 x1, .int .i64 x2] #[.int .i64 p0, .int .i64 p1, .int .i64 p2, .int .i64 p3, .int .i64 p4, .int .i64 p5] 26 46
    generalize (w.alloc (.cells #[.int .i64 x0, .int .i64 x1, .int .i64 x2] 26)).alloc (.cells #[.int .i64 p0, .int .i64 p1, .int .i64 p2, .int .i64 p3, .int .i64 p4, .int .i64 p5] 46) = w1 at x4 x5 hB ⊢
    obtain ⟨b4, h4⟩ : ∃ b, b = w.heap.size := ⟨_, rfl⟩
    obtain ⟨b5, h5⟩ : ∃ b, b = w.heap.size + 1 := ⟨_, rfl⟩
    rw [← h5, ← h4]
    rw [← h5] at x5
    rw [← h4] at x4
    have H4 := am x4
    have H5 := am x5
    have HB := am hB
    clear x4 x5 hB h4 h5
    have y50 := bcl H5.out 0 rfl
    have y51 := bcl H5.out 1 rfl
    have y52 := bcl H5.out 2 rfl
    have y53 := bcl H5.out 3 rfl
    have y54 := bcl H5.out 4 rfl
    have y55 := bcl H5.out 5 rfl
    go_wp2_with fail
    refine (HP.out w1 (HG.out.below HB.out)).mono ?_
    rintro e w2 ⟨rfl, hb⟩
    clear y50 y51 y52 y53 y54 y55
    go_upto_region 2 with fail
    replace H4 := am (blk_alloc (blk_below H4.out hb) (.cells #[.int .i64 n0, .int .i64 n1, .int .i64 n2, .int .i64 n3, .int .i64 n4, .int .i64 n5] 46))
    replace H5 := am (blk_alloc (blk_below H5.out hb) (.cells #[.int .i64 n0, .int .i64 n1, .int .i64 n2, .int .i64 n3, .int .i64 n4, .int .i64 n5] 46))
    replace HB := am (below_alloc (below_step HB.out hb) (.cells #[.int .i64 n0, .int .i64 n1, .int .i64 n2, .int .i64 n3, .int .i64 n4, .int .i64 n5] 46))
    clear hb
    generalize w2.alloc (.cells #[.int .i64 n0, .int .i64 n1, .int .i64 n2, .int .i64 n3, .int .i64 n4, .int .i64 n5] 46) = w3 at H4 H5 HB ⊢
    generalize w2.heap.size = b11
    have y40 := bcl H4.out 0 rfl
    have y41 := bcl H4.out 1 rfl
    have y42 := bcl H4.out 2 rfl
    have y50 := bcl H5.out 0 rfl
    go_wp2_with fail
    refine (HX.out w3 (HG.out.below HB.out)).mono ?_
    rintro e w4 ⟨rfl, hb⟩
    clear y40 y41 y42 y50
    replace H4 := am (blk_below H4.out hb)
    replace H5 := am (blk_below H5.out hb)
    replace HB := am (below_step HB.out hb)
    clear hb
    have y40 := bcl H4.out 0 rfl
    have y50 := bcl H5.out 0 rfl
    go_wp2_with fail
    refine (fits_any w4 z).mono ?_
    rintro e w5 ⟨rfl, rfl⟩
    rw [HZ.out]
    go_wp2_with fail
    refine bodyPost_ret (results_tmp3 rfl _ _ _) rfl ?_
    exact ⟨rfl, HB.out⟩
   | true =>
    have HZ := am hz
    clear hz
    cases hn : fits n with
    | false =>
     have HN := am hn
     clear hn
     refine ⟨0, 0, 1, fun w hG => ?_⟩
     have HG := am hG
     clear hG
     unfold vec at HX ⊢
     unfold sym at HP ⊢
     unfold Ch.two at HS HA
     go_enter Tryz.func72, Tryz.ntmps72
     go_upto_region 1 with fail
     obtain ⟨x4, x5, hB⟩ := blocks2 w #[.int .i64 x0, .int .i64 x1, .int .i64 x2] #[.int .i64 p0, .int .i64 p1, .int .i64 p2, .int .i64 p3, .int .i64 p4, .int .i64 p5] 26 46
     generalize (w.alloc (.cells #[.int .i64 x0, .int .i64 x1, .int .i64 x2] 26)).alloc (.cells #[.int .i64 p0, .int .i64 p1, .int .i64 p2, .int .i64 p3, .int .i64 p4, .int .i64 p5] 46) = w1 at x4 x5 hB ⊢
     obtain ⟨b4, h4⟩ : ∃ b, b = w.heap.size := ⟨_, rfl⟩
     obtain ⟨b5, h5⟩ : ∃ b, b = w.heap.size + 1 := ⟨_, rfl⟩
     rw [← h5, ← h4]
     rw [← h5] at x5
     rw [← h4] at x4
     have H4 := am x4
     have H5 := am x5
     have HB := am hB
     clear x4 x5 hB h4 h5
     have y50 := bcl H5.out 0 rfl
     have y51 := bcl H5.out 1 rfl
     have y52 := bcl H5.out 2 rfl
     have y53 := bcl H5.out 3 rfl
     have y54 := bcl H5.out 4 rfl
     have y55 := bcl H5.out 5 rfl
     go_wp2_with fail
     refine (HP.out w1 (HG.out.below HB.out)).mono ?_
     rintro e w2 ⟨rfl, hb⟩
     clear y50 y51 y52 y53 y54 y55
     go_upto_region 2 with fail
     replace H4 := am (blk_alloc (blk_below H4.out hb) (.cells #[.int .i64 n0, .int .i64 n1, .int .i64 n2, .int .i64 n3, .int .i64 n4, .int .i64 n5] 46))
     replace H5 := am (blk_alloc (blk_below H5.out hb) (.cells #[.int .i64 n0, .int .i64 n1, .int .i64 n2, .int .i64 n3, .int .i64 n4, .int .i64 n5] 46))
     replace HB := am (below_alloc (below_step HB.out hb) (.cells #[.int .i64 n0, .int .i64 n1, .int .i64 n2, .int .i64 n3, .int .i64 n4, .int .i64 n5] 46))
     clear hb
     generalize w2.alloc (.cells #[.int .i64 n0, .int .i64 n1, .int .i64 n2, .int .i64 n3, .int .i64 n4, .int .i64 n5] 46) = w3 at H4 H5 HB ⊢
     generalize w2.heap.size = b11
     have y40 := bcl H4.out 0 rfl
     have y41 := bcl H4.out 1 rfl
     have y42 := bcl H4.out 2 rfl
     have y50 := bcl H5.out 0 rfl
     go_wp2_with fail
     refine (HX.out w3 (HG.out.below HB.out)).mono ?_
     rintro e w4 ⟨rfl, hb⟩
     clear y40 y41 y42 y50
     replace H4 := am (blk_below H4.out hb)
     replace H5 := am (blk_below H5.out hb)
     replace HB := am (below_step HB.out hb)
     clear hb
     have y40 := bcl H4.out 0 rfl
     have y50 := bcl H5.out 0 rfl
     go_wp2_with fail
     refine (fits_any w4 z).mono ?_
     rintro e w5 ⟨rfl, rfl⟩
     rw [HZ.out]
     go_wp2_with fail
     refine (fits_any _ n).mono ?_
     rintro e w6 ⟨rfl, rfl⟩
     rw [HN.out]
     go_wp2_with fail
     refine bodyPost_ret (results_tmp3 rfl _ _ _) rfl ?_
     exact ⟨rfl, HB.out⟩
    | true =>
     have HN := am hn
     clear hn
     by_cases h1 : n < 1
     ·
      have d1 : decide (n < 1) = true := decide_eq_true h1
      refine ⟨0, 0, 1, fun w hG => ?_⟩
      have HG := am hG
      clear hG
      unfold vec at HX ⊢
      unfold sym at HP ⊢
      unfold Ch.two at HS HA
      go_enter Tryz.func72, Tryz.ntmps72
      go_upto_region 1 with fail
      obtain ⟨x4, x5, hB⟩ := blocks2 w #[.int .i64 x0, .int .i64 x1, .int .i64 x2] #[.int .i64 p0, .int .i64 p1, .int .i64 p2, .int .i64 p3, .int .i64 p4, .int .i64 p5] 26 46
      generalize (w.alloc (.cells #[.int .i64 x0, .int .i64 x1, .int .i64 x2] 26)).alloc (.cells #[.int .i64 p0, .int .i64 p1, .int .i64 p2, .int .i64 p3, .int .i64 p4, .int .i64 p5] 46) = w1 at x4 x5 hB ⊢
      obtain ⟨b4, h4⟩ : ∃ b, b = w.heap.size := ⟨_, rfl⟩
      obtain ⟨b5, h5⟩ : ∃ b, b = w.heap.size + 1 := ⟨_, rfl⟩
      rw [← h5, ← h4]
      rw [← h5] at x5
      rw [← h4] at x4
      have H4 := am x4
      have H5 := am x5
      have HB := am hB
      clear x4 x5 hB h4 h5
      have y50 := bcl H5.out 0 rfl
      have y51 := bcl H5.out 1 rfl
      have y52 := bcl H5.out 2 rfl
      have y53 := bcl H5.out 3 rfl
      have y54 := bcl H5.out 4 rfl
      have y55 := bcl H5.out 5 rfl
      go_wp2_with fail
      refine (HP.out w1 (HG.out.below HB.out)).mono ?_
      rintro e w2 ⟨rfl, hb⟩
      clear y50 y51 y52 y53 y54 y55
      go_upto_region 2 with fail
      replace H4 := am (blk_alloc (blk_below H4.out hb) (.cells #[.int .i64 n0, .int .i64 n1, .int .i64 n2, .int .i64 n3, .int .i64 n4, .int .i64 n5] 46))
      replace H5 := am (blk_alloc (blk_below H5.out hb) (.cells #[.int .i64 n0, .int .i64 n1, .int .i64 n2, .int .i64 n3, .int .i64 n4, .int .i64 n5] 46))
      replace HB := am (below_alloc (below_step HB.out hb) (.cells #[.int .i64 n0, .int .i64 n1, .int .i64 n2, .int .i64 n3, .int .i64 n4, .int .i64 n5] 46))
      clear hb
      generalize w2.alloc (.cells #[.int .i64 n0, .int .i64 n1, .int .i64 n2, .int .i64 n3, .int .i64 n4, .int .i64 n5] 46) = w3 at H4 H5 HB ⊢
      generalize w2.heap.size = b11
      have y40 := bcl H4.out 0 rfl
      have y41 := bcl H4.out 1 rfl
      have y42 := bcl H4.out 2 rfl
      have y50 := bcl H5.out 0 rfl
      go_wp2_with fail
      refine (HX.out w3 (HG.out.below HB.out)).mono ?_
      rintro e w4 ⟨rfl, hb⟩
      clear y40 y41 y42 y50
      replace H4 := am (blk_below H4.out hb)
      replace H5 := am (blk_below H5.out hb)
      replace HB := am (below_step HB.out hb)
      clear hb
      have y40 := bcl H4.out 0 rfl
      have y50 := bcl H5.out 0 rfl
      go_wp2_with fail
      refine (fits_any w4 z).mono ?_
      rintro e w5 ⟨rfl, rfl⟩
      rw [HZ.out]
      go_wp2_with fail
      refine (fits_any _ n).mono ?_
      rintro e w6 ⟨rfl, rfl⟩
      rw [HN.out]
      go_wp2_with fail
      refine bodyPost_ret (results_tmp3 rfl _ _ _) rfl ?_
      exact ⟨rfl, HB.out⟩
     ·
      have d1 : decide (n < 1) = false := decide_eq_false h1
      by_cases h2 : p0 < 0
      ·
       have d2 : decide (p0 < 0) = true := decide_eq_true h2
       refine ⟨0, 0, 1, fun w hG => ?_⟩
       have HG := am hG
       clear hG
       unfold vec at HX ⊢
       unfold sym at HP ⊢
       unfold Ch.two at HS HA
       go_enter Tryz.func72, Tryz.ntmps72
       go_upto_region 1 with fail
       obtain ⟨x4, x5, hB⟩ := blocks2 w #[.int .i64 x0, .int .i64 x1, .int .i64 x2] #[.int .i64 p0, .int .i64 p1, .int .i64 p2, .int .i64 p3, .int .i64 p4, .int .i64 p5] 26 46
       generalize (w.alloc (.cells #[.int .i64 x0, .int .i64 x1, .int .i64 x2] 26)).alloc (.cells #[.int .i64 p0, .int .i64 p1, .int .i64 p2, .int .i64 p3, .int .i64 p4, .int .i64 p5] 46) = w1 at x4 x5 hB ⊢
       obtain ⟨b4, h4⟩ : ∃ b, b = w.heap.size := ⟨_, rfl⟩
       obtain ⟨b5, h5⟩ : ∃ b, b = w.heap.size + 1 := ⟨_, rfl⟩
       rw [← h5, ← h4]
       rw [← h5] at x5
       rw [← h4] at x4
       have H4 := am x4
       have H5 := am x5
       have HB := am hB
       clear x4 x5 hB h4 h5
       have y50 := bcl H5.out 0 rfl
       have y51 := bcl H5.out 1 rfl
       have y52 := bcl H5.out 2 rfl
       have y53 := bcl H5.out 3 rfl
       have y54 := bcl H5.out 4 rfl
       have y55 := bcl H5.out 5 rfl
       go_wp2_with fail
       refine (HP.out w1 (HG.out.below HB.out)).mono ?_
       rintro e w2 ⟨rfl, hb⟩
       clear y50 y51 y52 y53 y54 y55
       go_upto_region 2 with fail
       replace H4 := am (blk_alloc (blk_below H4.out hb) (.cells #[.int .i64 n0, .int .i64 n1, .int .i64 n2, .int .i64 n3, .int .i64 n4, .int .i64 n5] 46))
       replace H5 := am (blk_alloc (blk_below H5.out hb) (.cells #[.int .i64 n0, .int .i64 n1, .int .i64 n2, .int .i64 n3, .int .i64 n4, .int .i64 n5] 46))
       replace HB := am (below_alloc (below_step HB.out hb) (.cells #[.int .i64 n0, .int .i64 n1, .int .i64 n2, .int .i64 n3, .int .i64 n4, .int .i64 n5] 46))
       clear hb
       generalize w2.alloc (.cells #[.int .i64 n0, .int .i64 n1, .int .i64 n2, .int .i64 n3, .int .i64 n4, .int .i64 n5] 46) = w3 at H4 H5 HB ⊢
       generalize w2.heap.size = b11
       have y40 := bcl H4.out 0 rfl
       have y41 := bcl H4.out 1 rfl
       have y42 := bcl H4.out 2 rfl
       have y50 := bcl H5.out 0 rfl
       go_wp2_with fail
       refine (HX.out w3 (HG.out.below HB.out)).mono ?_
       rintro e w4 ⟨rfl, hb⟩
       clear y40 y41 y42 y50
       replace H4 := am (blk_below H4.out hb)
       replace H5 := am (blk_below H5.out hb)
       replace HB := am (below_step HB.out hb)
       clear hb
       have y40 := bcl H4.out 0 rfl
       have y50 := bcl H5.out 0 rfl
       go_wp2_with fail
       refine (fits_any w4 z).mono ?_
       rintro e w5 ⟨rfl, rfl⟩
       rw [HZ.out]
       go_wp2_with fail
       refine (fits_any _ n).mono ?_
       rintro e w6 ⟨rfl, rfl⟩
       rw [HN.out]
       go_wp2_with fail
       refine bodyPost_ret (results_tmp3 rfl _ _ _) rfl ?_
       exact ⟨rfl, HB.out⟩
      ·
       have d2 : decide (p0 < 0) = false := decide_eq_false h2
       by_cases h3 : e1 = 0
       ·
        subst h3
        by_cases h4 : e2 = 0
        ·
         subst h4
         refine ⟨y, sp, 0, fun w hG => ?_⟩
         have HG := am hG
         clear hG
         unfold vec at HX ⊢
         unfold sym at HP ⊢
         unfold Ch.two at HS HA
         go_enter Tryz.func72, Tryz.ntmps72
         go_upto_region 1 with fail
         obtain ⟨x4, x5, hB⟩ := blocks2 w #[.int .i64 x0, .int .i64 x1, .int .i64 x2] #[.int .i64 p0, .int .i64 p1, .int .i64 p2, .int .i64 p3, .int .i64 p4, .int .i64 p5] 26 46
         generalize (w.alloc (.cells #[.int .i64 x0, .int .i64 x1, .int .i64 x2] 26)).alloc (.cells #[.int .i64 p0, .int .i64 p1, .int .i64 p2, .int .i64 p3, .int .i64 p4, .int .i64 p5] 46) = w1 at x4 x5 hB ⊢
         obtain ⟨b4, h4⟩ : ∃ b, b = w.heap.size := ⟨_, rfl⟩
         obtain ⟨b5, h5⟩ : ∃ b, b = w.heap.size + 1 := ⟨_, rfl⟩
         rw [← h5, ← h4]
         rw [← h5] at x5
         rw [← h4] at x4
         have H4 := am x4
         have H5 := am x5
         have HB := am hB
         clear x4 x5 hB h4 h5
         have y50 := bcl H5.out 0 rfl
         have y51 := bcl H5.out 1 rfl
         have y52 := bcl H5.out 2 rfl
         have y53 := bcl H5.out 3 rfl
         have y54 := bcl H5.out 4 rfl
         have y55 := bcl H5.out 5 rfl
         go_wp2_with fail
         refine (HP.out w1 (HG.out.below HB.out)).mono ?_
         rintro e w2 ⟨rfl, hb⟩
         clear y50 y51 y52 y53 y54 y55
         go_upto_region 2 with fail
         replace H4 := am (blk_alloc (blk_below H4.out hb) (.cells #[.int .i64 n0, .int .i64 n1, .int .i64 n2, .int .i64 n3, .int .i64 n4, .int .i64 n5] 46))
         replace H5 := am (blk_alloc (blk_below H5.out hb) (.cells #[.int .i64 n0, .int .i64 n1, .int .i64 n2, .int .i64 n3, .int .i64 n4, .int .i64 n5] 46))
         replace HB := am (below_alloc (below_step HB.out hb) (.cells #[.int .i64 n0, .int .i64 n1, .int .i64 n2, .int .i64 n3, .int .i64 n4, .int .i64 n5] 46))
         clear hb
         generalize w2.alloc (.cells #[.int .i64 n0, .int .i64 n1, .int .i64 n2, .int .i64 n3, .int .i64 n4, .int .i64 n5] 46) = w3 at H4 H5 HB ⊢
         generalize w2.heap.size = b11
         have y40 := bcl H4.out 0 rfl
         have y41 := bcl H4.out 1 rfl
         have y42 := bcl H4.out 2 rfl
         have y50 := bcl H5.out 0 rfl
         go_wp2_with fail
         refine (HX.out w3 (HG.out.below HB.out)).mono ?_
         rintro e w4 ⟨rfl, hb⟩
         clear y40 y41 y42 y50
         replace H4 := am (blk_below H4.out hb)
         replace H5 := am (blk_below H5.out hb)
         replace HB := am (below_step HB.out hb)
         clear hb
         have y40 := bcl H4.out 0 rfl
         have y50 := bcl H5.out 0 rfl
         go_wp2_with fail
         refine (fits_any w4 z).mono ?_
         rintro e w5 ⟨rfl, rfl⟩
         rw [HZ.out]
         go_wp2_with fail
         refine (fits_any _ n).mono ?_
         rintro e w6 ⟨rfl, rfl⟩
         rw [HN.out]
         go_wp2_with fail
         refine (HS.out _ (HG.out.below HB.out)).mono ?_
         rintro e w7 ⟨rfl, hb⟩
         clear y40 y50
         replace H4 := am (blk_below H4.out hb)
         replace H5 := am (blk_below H5.out hb)
         replace HB := am (below_step HB.out hb)
         clear hb
         have y50 := bcl H5.out 0 rfl
         go_wp2_with fail
         refine (HA.out w7 (HG.out.below HB.out)).mono ?_
         rintro e w8 ⟨rfl, hb⟩
         clear y50
         replace H4 := am (blk_below H4.out hb)
         replace H5 := am (blk_below H5.out hb)
         replace HB := am (below_step HB.out hb)
         clear hb
         go_wp2_with fail
         refine bodyPost_ret (results_tmp3 rfl _ _ _) rfl ?_
         exact ⟨rfl, HB.out⟩
        ·
         have q1 : (e2 == 0) = false := by simp [h4]
         have q2 : decide (e2 = 0) = false := decide_eq_false h4
         refine ⟨0, 0, e2, fun w hG => ?_⟩
         have HG := am hG
         clear hG
         unfold vec at HX ⊢
         unfold sym at HP ⊢
         unfold Ch.two at HS HA
         go_enter Tryz.func72, Tryz.ntmps72
         go_upto_region 1 with fail
         obtain ⟨x4, x5, hB⟩ := blocks2 w #[.int .i64 x0, .int .i64 x1, .int .i64 x2] #[.int .i64 p0, .int .i64 p1, .int .i64 p2, .int .i64 p3, .int .i64 p4, .int .i64 p5] 26 46
         generalize (w.alloc (.cells #[.int .i64 x0, .int .i64 x1, .int .i64 x2] 26)).alloc (.cells #[.int .i64 p0, .int .i64 p1, .int .i64 p2, .int .i64 p3, .int .i64 p4, .int .i64 p5] 46) = w1 at x4 x5 hB ⊢
         obtain ⟨b4, h4⟩ : ∃ b, b = w.heap.size := ⟨_, rfl⟩
         obtain ⟨b5, h5⟩ : ∃ b, b = w.heap.size + 1 := ⟨_, rfl⟩
         rw [← h5, ← h4]
         rw [← h5] at x5
         rw [← h4] at x4
         have H4 := am x4
         have H5 := am x5
         have HB := am hB
         clear x4 x5 hB h4 h5
         have y50 := bcl H5.out 0 rfl
         have y51 := bcl H5.out 1 rfl
         have y52 := bcl H5.out 2 rfl
         have y53 := bcl H5.out 3 rfl
         have y54 := bcl H5.out 4 rfl
         have y55 := bcl H5.out 5 rfl
         go_wp2_with fail
         refine (HP.out w1 (HG.out.below HB.out)).mono ?_
         rintro e w2 ⟨rfl, hb⟩
         clear y50 y51 y52 y53 y54 y55
         go_upto_region 2 with fail
         replace H4 := am (blk_alloc (blk_below H4.out hb) (.cells #[.int .i64 n0, .int .i64 n1, .int .i64 n2, .int .i64 n3, .int .i64 n4, .int .i64 n5] 46))
         replace H5 := am (blk_alloc (blk_below H5.out hb) (.cells #[.int .i64 n0, .int .i64 n1, .int .i64 n2, .int .i64 n3, .int .i64 n4, .int .i64 n5] 46))
         replace HB := am (below_alloc (below_step HB.out hb) (.cells #[.int .i64 n0, .int .i64 n1, .int .i64 n2, .int .i64 n3, .int .i64 n4, .int .i64 n5] 46))
         clear hb
         generalize w2.alloc (.cells #[.int .i64 n0, .int .i64 n1, .int .i64 n2, .int .i64 n3, .int .i64 n4, .int .i64 n5] 46) = w3 at H4 H5 HB ⊢
         generalize w2.heap.size = b11
         have y40 := bcl H4.out 0 rfl
         have y41 := bcl H4.out 1 rfl
         have y42 := bcl H4.out 2 rfl
         have y50 := bcl H5.out 0 rfl
         go_wp2_with fail
         refine (HX.out w3 (HG.out.below HB.out)).mono ?_
         rintro e w4 ⟨rfl, hb⟩
         clear y40 y41 y42 y50
         replace H4 := am (blk_below H4.out hb)
         replace H5 := am (blk_below H5.out hb)
         replace HB := am (below_step HB.out hb)
         clear hb
         have y40 := bcl H4.out 0 rfl
         have y50 := bcl H5.out 0 rfl
         go_wp2_with fail
         refine (fits_any w4 z).mono ?_
         rintro e w5 ⟨rfl, rfl⟩
         rw [HZ.out]
         go_wp2_with fail
         refine (fits_any _ n).mono ?_
         rintro e w6 ⟨rfl, rfl⟩
         rw [HN.out]
         go_wp2_with fail
         refine (HS.out _ (HG.out.below HB.out)).mono ?_
         rintro e w7 ⟨rfl, hb⟩
         clear y40 y50
         replace H4 := am (blk_below H4.out hb)
         replace H5 := am (blk_below H5.out hb)
         replace HB := am (below_step HB.out hb)
         clear hb
         have y50 := bcl H5.out 0 rfl
         go_wp2_with fail
         refine (HA.out w7 (HG.out.below HB.out)).mono ?_
         rintro e w8 ⟨rfl, hb⟩
         clear y50
         replace H4 := am (blk_below H4.out hb)
         replace H5 := am (blk_below H5.out hb)
         replace HB := am (below_step HB.out hb)
         clear hb
         go_wp2_with fail
         refine bodyPost_ret (results_tmp3 rfl _ _ _) rfl ?_
         exact ⟨rfl, HB.out⟩
       ·
        have q1 : (e1 == 0) = false := by simp [h3]
        have q2 : decide (e1 = 0) = false := decide_eq_false h3
        refine ⟨0, 0, e1, fun w hG => ?_⟩
        have HG := am hG
        clear hG
        unfold vec at HX ⊢
        unfold sym at HP ⊢
        unfold Ch.two at HS HA
        go_enter Tryz.func72, Tryz.ntmps72
        go_upto_region 1 with fail
        obtain ⟨x4, x5, hB⟩ := blocks2 w #[.int .i64 x0, .int .i64 x1, .int .i64 x2] #[.int .i64 p0, .int .i64 p1, .int .i64 p2, .int .i64 p3, .int .i64 p4, .int .i64 p5] 26 46
        generalize (w.alloc (.cells #[.int .i64 x0, .int .i64 x1, .int .i64 x2] 26)).alloc (.cells #[.int .i64 p0, .int .i64 p1, .int .i64 p2, .int .i64 p3, .int .i64 p4, .int .i64 p5] 46) = w1 at x4 x5 hB ⊢
        obtain ⟨b4, h4⟩ : ∃ b, b = w.heap.size := ⟨_, rfl⟩
        obtain ⟨b5, h5⟩ : ∃ b, b = w.heap.size + 1 := ⟨_, rfl⟩
        rw [← h5, ← h4]
        rw [← h5] at x5
        rw [← h4] at x4
        have H4 := am x4
        have H5 := am x5
        have HB := am hB
        clear x4 x5 hB h4 h5
        have y50 := bcl H5.out 0 rfl
        have y51 := bcl H5.out 1 rfl
        have y52 := bcl H5.out 2 rfl
        have y53 := bcl H5.out 3 rfl
        have y54 := bcl H5.out 4 rfl
        have y55 := bcl H5.out 5 rfl
        go_wp2_with fail
        refine (HP.out w1 (HG.out.below HB.out)).mono ?_
        rintro e w2 ⟨rfl, hb⟩
        clear y50 y51 y52 y53 y54 y55
        go_upto_region 2 with fail
        replace H4 := am (blk_alloc (blk_below H4.out hb) (.cells #[.int .i64 n0, .int .i64 n1, .int .i64 n2, .int .i64 n3, .int .i64 n4, .int .i64 n5] 46))
        replace H5 := am (blk_alloc (blk_below H5.out hb) (.cells #[.int .i64 n0, .int .i64 n1, .int .i64 n2, .int .i64 n3, .int .i64 n4, .int .i64 n5] 46))
        replace HB := am (below_alloc (below_step HB.out hb) (.cells #[.int .i64 n0, .int .i64 n1, .int .i64 n2, .int .i64 n3, .int .i64 n4, .int .i64 n5] 46))
        clear hb
        generalize w2.alloc (.cells #[.int .i64 n0, .int .i64 n1, .int .i64 n2, .int .i64 n3, .int .i64 n4, .int .i64 n5] 46) = w3 at H4 H5 HB ⊢
        generalize w2.heap.size = b11
        have y40 := bcl H4.out 0 rfl
        have y41 := bcl H4.out 1 rfl
        have y42 := bcl H4.out 2 rfl
        have y50 := bcl H5.out 0 rfl
        go_wp2_with fail
        refine (HX.out w3 (HG.out.below HB.out)).mono ?_
        rintro e w4 ⟨rfl, hb⟩
        clear y40 y41 y42 y50
        replace H4 := am (blk_below H4.out hb)
        replace H5 := am (blk_below H5.out hb)
        replace HB := am (below_step HB.out hb)
        clear hb
        have y40 := bcl H4.out 0 rfl
        have y50 := bcl H5.out 0 rfl
        go_wp2_with fail
        refine (fits_any w4 z).mono ?_
        rintro e w5 ⟨rfl, rfl⟩
        rw [HZ.out]
        go_wp2_with fail
        refine (fits_any _ n).mono ?_
        rintro e w6 ⟨rfl, rfl⟩
        rw [HN.out]
        go_wp2_with fail
        refine (HS.out _ (HG.out.below HB.out)).mono ?_
        rintro e w7 ⟨rfl, hb⟩
        clear y40 y50
        replace H4 := am (blk_below H4.out hb)
        replace H5 := am (blk_below H5.out hb)
        replace HB := am (below_step HB.out hb)
        clear hb
        have y50 := bcl H5.out 0 rfl
        go_wp2_with fail
        refine bodyPost_ret (results_tmp3 rfl _ _ _) rfl ?_
        exact ⟨rfl, HB.out⟩
 ·
  have q1 : (e0 == 0) = false := by simp [h0]
  have q2 : decide (e0 = 0) = false := decide_eq_false h0
  refine ⟨0, 0, 1, fun w hG => ?_⟩
  have HG := am hG
  clear hG
  unfold vec at HX ⊢
  unfold sym at HP ⊢
  unfold Ch.two at HS HA
  go_enter Tryz.func72, Tryz.ntmps72
  go_upto_region 1 with fail
  obtain ⟨x4, x5, hB⟩ := blocks2 w #[.int .i64 x0, .int .i64 x1, .int .i64 x2] #[.int .i64 p0, .int .i64 p1, .int .i64 p2, .int .i64 p3, .int .i64 p4, .int .i64 p5] 26 46
  generalize (w.alloc (.cells #[.int .i64 x0, .int .i64 x1, .int .i64 x2] 26)).alloc (.cells #[.int .i64 p0, .int .i64 p1, .int .i64 p2, .int .i64 p3, .int .i64 p4, .int .i64 p5] 46) = w1 at x4 x5 hB ⊢
  obtain ⟨b4, h4⟩ : ∃ b, b = w.heap.size := ⟨_, rfl⟩
  obtain ⟨b5, h5⟩ : ∃ b, b = w.heap.size + 1 := ⟨_, rfl⟩
  rw [← h5, ← h4]
  rw [← h5] at x5
  rw [← h4] at x4
  have H4 := am x4
  have H5 := am x5
  have HB := am hB
  clear x4 x5 hB h4 h5
  have y50 := bcl H5.out 0 rfl
  have y51 := bcl H5.out 1 rfl
  have y52 := bcl H5.out 2 rfl
  have y53 := bcl H5.out 3 rfl
  have y54 := bcl H5.out 4 rfl
  have y55 := bcl H5.out 5 rfl
  go_wp2_with fail
  refine (HP.out w1 (HG.out.below HB.out)).mono ?_
  rintro e w2 ⟨rfl, hb⟩
  clear y50 y51 y52 y53 y54 y55
  go_upto_region 2 with fail
  replace H4 := am (blk_alloc (blk_below H4.out hb) (.cells #[.int .i64 n0, .int .i64 n1, .int .i64 n2, .int .i64 n3, .int .i64 n4, .int .i64 n5] 46))
  replace H5 := am (blk_alloc (blk_below H5.out hb) (.cells #[.int .i64 n0, .int .i64 n1, .int .i64 n2, .int .i64 n3, .int .i64 n4, .int .i64 n5] 46))
  replace HB := am (below_alloc (below_step HB.out hb) (.cells #[.int .i64 n0, .int .i64 n1, .int .i64 n2, .int .i64 n3, .int .i64 n4, .int .i64 n5] 46))
  clear hb
  generalize w2.alloc (.cells #[.int .i64 n0, .int .i64 n1, .int .i64 n2, .int .i64 n3, .int .i64 n4, .int .i64 n5] 46) = w3 at H4 H5 HB ⊢
  generalize w2.heap.size = b11
  have y40 := bcl H4.out 0 rfl
  have y41 := bcl H4.out 1 rfl
  have y42 := bcl H4.out 2 rfl
  have y50 := bcl H5.out 0 rfl
  go_wp2_with fail
  refine bodyPost_ret (results_tmp3 rfl _ _ _) rfl ?_
  exact ⟨rfl, HB.out⟩
end Go.Proofs.YtpdahkgandaabaaGreatDoor.Ch
namespace Go.Proofs.YtpdahkgandaabaaGreatDoor.Ch
open Go.RowKit Go.Proofs.YtpdahkgandaabaaGreatDoorW.PrintLast
section
variable {P : Program} {ops : Array Oper} {Q : Exit → Act → World → Prop} {md : Region.Mode} {S : World → Prop} {ds : List Nat}
def calmOp (o : Oper) : Bool := match o.op with
 | .defer _ => false
 | _ => true
theorem calmOp_spec {o : Oper} (h : calmOp o = true) : ∀ c, o.op ≠ .defer c := by
 intro c e
 simp [calmOp, e] at h
theorem wpIn_of_wp_op {r n : Nat} {o : Oper} {a : Act} {w : World} {K : Act → World → Prop} (hd : ∀ c, o.op ≠ .defer c) (h : o.wp P a w K Q) : o.wpIn (Fence.wide.inRound r) n P a w K Q := by
 refine ⟨fun _ _ => trivial, ?_⟩
 rw [Fence.inRound_round, Oper.semAt_some r _ _ hd]
 unfold Oper.wp at h
 generalize (execOp a.eval o).run P w = q at h ⊢
 cases q with
 | ok x w' =>
  cases x <;> simp only [Oper.upon, Oper.uponIn] at h ⊢ <;>
   first
    | exact h
    | exact ⟨fun h0 => by simp [Fence.wide] at h0, (callsIn_wide.2 h).inRound r⟩
    | exact ⟨fun h0 => by simp [Fence.wide] at h0, fun c cs _ => let ⟨v, w', r, s⟩ := h c cs; ⟨v, w', r, stepsIn_wide.2 s⟩⟩
    | exact h.elim
 | halt x w' => cases x <;> simp only [Oper.upon, Oper.uponIn] at h ⊢ <;> exact h
theorem wpOpIn_of {r n : Nat} (hd : ops.all calmOp = true) (hQ : ¬ LetsOut Q) {i : Nat} {K K' : Act → World → Prop} (hK : ∀ a w, K a w → K' a w) {a : Act} {w : World} (h : wpOp P ops Q i K a w) : wpOpIn (Fence.wide.inRound r) n P ops Q i K' a w := by
 unfold wpOp at h
 unfold wpOpIn
 cases ho : ops[i]? with
 | none => rw [ho] at h; exact hK _ _ h
 | some o =>
  rw [ho] at h
  simp only at h ⊢
  have hc : ∀ c, o.op ≠ .defer c := calmOp_spec (Array.all_eq_true_iff_forall_mem.1 hd o (Array.mem_of_getElem? ho))
  by_cases hw : Region.wanted o (yielded ops a.tmps) = true
  ·
   rw [if_pos hw] at h ⊢
   rcases h with h | ⟨_, h⟩
   ·
    exact Oper.wpIn_mono hK (wpIn_of_wp_op hc h)
   ·
    exact absurd h hQ
  ·
   rw [if_neg hw] at h ⊢
   exact ⟨fun _ _ => trivial, hK _ _ h⟩
theorem wpAnyIn_of {r n : Nat} (hd : ops.all calmOp = true) (hQ : ¬ LetsOut Q) : ∀ (fuel : Nat) (l : Array Bool) (a : Act) (w : World), wpAny P md ops Q fuel l a w → wpAnyIn (Fence.wide.inRound r) n P md ops Q fuel l a w
 | 0, _, _, _, h => h
 | fuel + 1, _, _, _, h => ⟨h.1, fun i hi => wpOpIn_of hd hQ (fun a w => wpAnyIn_of hd hQ fuel _ a w) (h.2 i hi)⟩
theorem startIn_ {id n r m : Nat} {a : Act} {w : World} (l : Array Bool) (hm : P.follows .mixedOrders = true) (hd : ops.all calmOp = true) (hQ : ¬ LetsOut Q) (hn : ops.size = n) (hl : Array.replicate n false = l) (hS : S w.drew)
  (h : S w.drew → wpAnyLast P .any ops Q S ds n l a w.drew) : (Code.region id ops true).wpIn (Fence.wide.inRound r) m P Q a w := by
 subst hn
 subst hl
 exact wpIn_region_any hm (wpAnyIn_of hd hQ _ _ _ _ (wpAny_of_last _ _ _ _ (h hS)))
end
section
variable {F : Fence} {n : Nat} {P : Program}
def goesOn {α : Type} (B : Nat) (Kp : World → World → Prop) (I : List α → World → Prop) (xs : List α) (W : World) : Exit → Act → World → Prop
 | .normal, _, W' => KeepsFrom B W W' ∧ Kp W W' ∧ I xs W'
 | _, _, _ => False
theorem range_on {α : Type} {g : Operand} {ps : Array Tmp} {assign body : Code} {Q : Exit → Act → World → Prop} {a : Act} {w : World}
  (hro : F.round = none) (h1 : 1 ≤ n) {gf : Nat} {lb : Array Value} (hg : a.eval g = .func (.func gf) #[] lb) (hFg : F.fn gf) (eg : ∀ args w, (callFunc gf args).run P w = .ok (.enter gf args) w)
  {encs : α → Array Value} {Kp : World → World → Prop} {S : List α → Prop} {N : Nat}
  (hiter : ∀ (l : Nat) (J : List α → World → Prop) (W : World), Below w.heap.size w W → W.heap.size = w.heap.size + 2 → AbidesFrom W.heap.size J →
   (∀ pre x W1, J pre W1 → pre.length < N → YieldAt F (n - 1 - 1) P l (encs x) W1 fun e W' => e = .returned (.bool true) ∧ J (pre ++ [x]) W' ∧ Kp W1 W') →
   J [] W → CallsIn F (n - 1) P gf (#[.func (.yield l) #[] #[]] ++ lb) W fun e W' => (∃ v, e = .returned v) ∧ ∃ xs, S xs ∧ J xs W')
  (hKt : ∀ {A B C : World}, Kp A B → Kp B C → Kp A C) (hKb : ∀ (W : World) (l : Nat) (o o' : Obj), w.heap.size ≤ l → W.heap[l]? = some o → o.isCells = false → o.isWalk = false → Kp W (W.putObj l o')) (hps : ∀ x, (encs x).size = ps.size)
  (I : List α → World → Prop) (hI : OwnFrom w.heap.size I) (h0 : I [] w) (Ax : α → Act → World → Prop) (hAx : ∀ x a', OwnFrom w.heap.size (fun (_ : Unit) W => Ax x a' W))
  (hassign : ∀ (l : Nat) (pre : List α) (x : α) (W : World) (K : Act → World → Prop), I pre W → (∀ a' W', KeepsFrom w.heap.size W W' → Kp W W' → I pre W' → Ax x a' W' → K a' W') →
   assign.wpIn (F.inRound l) (n - 1 - 1) P (Exit.then K (fun _ _ _ => False)) { tmps := (ps.zip (encs x)).foldl (fun t (p, v) => t.setIfInBounds p v) a.tmps, defers := [] } W)
  (hbody : ∀ (l : Nat) (pre : List α) (x : α) (a' : Act) (W : World), w.heap.size ≤ l → I pre W → Ax x a' W → pre.length < N → body.wpIn (F.inRound l) (n - 1 - 1) P (goesOn w.heap.size Kp I (pre ++ [x]) W) a' W)
  (hdone : ∀ (D : Nat) (xs : List α) (W : World), w.heap.size ≤ D → S xs → I xs W → W.heap[D]? = some (.deferred (some [])) → Q .normal { a with defers := { target := .collected D, args := #[] } :: a.defers } W) :
  (Code.rangeFunc g ps assign body).wpIn F n P Q a w := by
 refine wpIn_rangeFunc ?_
 intro fn hfn
 rw [hro]
 obtain ⟨rec, hrec⟩ : ∃ rec : LoopState → Loop, rec = fun st => { state := st, pending := none, fn, tmps := a.tmps, params := ps, assign, body, defers := w.heap.size } := ⟨_, rfl⟩
 obtain ⟨W1, hW1⟩ : ∃ W1, (w.alloc (.deferred (some []))).alloc (.loop (rec .ready)) = W1 := ⟨_, rfl⟩
 have hz1 : W1.heap.size = w.heap.size + 2 := by rw [← hW1]; simp
 have hL1 : W1.heap[w.heap.size + 1]? = some (.loop (rec .ready)) := by
  rw [← hW1]
  have h := World.alloc_heap_new (w.alloc (.deferred (some []))) (.loop (rec .ready))
  rwa [World.size_alloc] at h
 have hK1 : W1.heap[w.heap.size]? = some (.deferred (some [])) := by
  rw [← hW1]
  exact (Below.heap_alloc _ _ _ (by simp)).trans (World.alloc_heap_new w _)
 have hI1 : I [] W1 := by rw [← hW1]; exact hI.alloc _ (hI.alloc _ h0)
 have hb1 : Below w.heap.size w W1 := by
  rw [← hW1]
  exact ((Below.refl _ w).alloc (Nat.le_refl _) _).alloc (by simp) _
 refine ⟨w.heap.size + 1, [{ target := .collected w.heap.size, args := #[] }], W1, { target := .fn (.func gf) lb, args := #[.func (.yield (w.heap.size + 1)) #[] #[]] }, W1, gf,
  #[.func (.yield (w.heap.size + 1)) #[] #[]] ++ lb, W1, ?_, ?_, ?_, ?_, fun _ => h1, ?_⟩
 ·
  rw [← hW1, hrec]
  exact run_enterLoop_outer _ _ _ _ _
 ·
  simp only [resolve, hg]
  simp [go_sem]
 ·
  intro f' hf'
  simp [Target.leads] at hf'
  subst hf'
  exact hFg
 ·
  simp [invoke, go_sem, eg]
 ·
  refine (hiter (w.heap.size + 1) (fun pre W => I pre W ∧ W.heap[w.heap.size + 1]? = some (.loop (rec .ready)) ∧ W.heap[w.heap.size]? = some (.deferred (some []))) W1 hb1 hz1 ?ab ?round ⟨hI1, hL1, hK1⟩).mono ?end_
  case ab =>
   intro s A B row hs hg' hr
   exact ⟨hI s A B row hs.1 hg' (fun r e => by obtain ⟨hB, o, ho, hw⟩ := hr r e; exact ⟨by omega, o, ho, Obj.not_cells_of_walk hw⟩),
    (grownBy_keeps hg' (fun r e => (hr r e).2) hs.2.1 rfl).trans hs.2.1, (grownBy_keeps hg' (fun r e => (hr r e).2) hs.2.2 rfl).trans hs.2.2⟩
  case round =>
   rintro pre x W ⟨hi, hl, hk⟩ hlen
   have hy := run_yield (P := P) (args := encs x) hl (by rw [hrec]; exact hps x)
   rw [hrec] at hy
   refine ⟨fn, _, assign, body, hy, roundIn_of_wpIn hfn (hassign _ pre x W _ hi ?_)⟩
   clear hy
   intro a' Wa hkfa hkpa hia hax
   have hla := hkfa.same _ _ (by omega) hl rfl
   have hka := hkfa.same _ _ (Nat.le_refl _) hk rfl
   have hlt : w.heap.size + 1 < Wa.heap.size := (Array.getElem?_eq_some_iff.1 hla).1
   refine ⟨_, run_beginRound hla (by rw [hrec]), ?_⟩
   have hl2 : (Wa.putObj (w.heap.size + 1) (.loop { rec .ready with state := .busy })).heap[w.heap.size + 1]? = some (.loop { rec .ready with state := .busy }) := World.putObj_heap_same hlt
   have hk2 : (Wa.putObj (w.heap.size + 1) (.loop { rec .ready with state := .busy })).heap[w.heap.size]? = some (.deferred (some [])) := (World.putObj_heap_other (by omega)).trans hka
   have hw2 : Kp Wa (Wa.putObj (w.heap.size + 1) (.loop { rec .ready with state := .busy })) := hKb _ _ _ _ (by omega) hla rfl rfl
   refine wpIn_mono (hbody _ pre x a' _ (by omega) (hI.putObj _ hia (by omega) hla rfl) ((hAx x a').putObj (s := ()) _ hax (by omega) hla rfl) hlen) ?_
   rintro e a3 W3 hp
   cases e with
   | normal =>
    obtain ⟨hk3, hkp3, hi3⟩ := hp
    have hl3 := hk3.same _ _ (by omega) hl2 rfl
    have hr := run_endRound (P := P) none hl3
    rw [hrec] at hr hl3
    refine ⟨_, _, hr, rfl, ⟨hI.putObj _ hi3 (by omega) hl3 rfl, ?_, (World.putObj_heap_other (by omega)).trans (hk3.same _ _ (Nat.le_refl _) hk2 rfl)⟩, hKt hkpa (hKt (hKt hw2 hkp3) (hKb _ _ _ _ (by omega) hl3 rfl rfl))⟩
    rw [hrec]
    exact World.putObj_heap_same (Array.getElem?_eq_some_iff.1 hl3).1
   | _ => exact hp.elim
  case end_ =>
   rintro e W2 ⟨⟨v, rfl⟩, xs, hS, hi, hl, hk⟩
   have hr := run_endLoop (P := P) hl (by rw [hrec]; simp)
   rw [hrec] at hr hl
   exact ⟨none, _, hr, hdone _ xs _ (Nat.le_refl _) hS (hI.putObj _ hi (by omega) hl rfl) ((World.putObj_heap_other (by omega)).trans hk)⟩
end
end Go.Proofs.YtpdahkgandaabaaGreatDoor.Ch
namespace Go.Proofs.YtpdahkgandaabaaGreatDoor.Ch
section
variable {P : Program} {a : Act} {w : World} {Q : Exit → Act → World → Prop}
def RoundAt (P : Program) (Q : Exit → Act → World → Prop) (c : Code) (a : Act) (w : World) : Prop :=
 ∀ (b : Frame) (k : List Item) (cs : List Frame), ∃ e a' w', Q e a' w' ∧ Arrives P (lone (b.at a (.code c :: .inLoop c :: k)) cs w) b k cs e a' w'
theorem round_at {c : Code} (h : c.wp P (Exit.then (RoundAt P Q c) Q) a w) : RoundAt P Q c a w := by
 intro b k cs
 obtain ⟨e, a₁, w₁, hq, harr⟩ := h b (.inLoop c :: k) cs
 cases e with
 | normal =>
  obtain ⟨e₂, a₂, w₂, hq₂, harr₂⟩ := hq b k cs
  exact ⟨e₂, a₂, w₂, hq₂, .of_steps (Steps.trans harr (.one step_inLoop)) harr₂⟩
 | exit id => exact ⟨_, a₁, w₁, hq, .pass (x := .inLoop c) rfl (fun _ _ => .inl (by simp)) harr⟩
 | goto l => exact ⟨_, a₁, w₁, hq, .pass (x := .inLoop c) rfl (fun _ _ => .inl (by simp)) harr⟩
 | ret => exact ⟨_, a₁, w₁, hq, .pass (x := .inLoop c) rfl (fun _ _ => .inl (by simp)) harr⟩
 | panic ch => exact ⟨_, a₁, w₁, hq, .pass (x := .inLoop c) rfl (fun _ _ => .inl (by simp)) harr⟩
 | outgrown => exact ⟨_, a₁, w₁, hq, .pass (x := .inLoop c) rfl (fun _ _ => .inl (by simp)) harr⟩
theorem wp_unroll {c : Code} (h : ∀ K : Act → World → Prop, (∀ a w, c.wp P (Exit.then K Q) a w → K a w) → c.wp P (Exit.then K Q) a w) : (Code.loop c).wp P Q a w := by
 intro b k cs
 obtain ⟨e, a', w', hq, harr⟩ := round_at (h (RoundAt P Q c) (fun _ _ h => round_at h)) b k cs
 exact ⟨e, a', w', hq, .of_steps (.one step_loop) harr⟩
end
end Go.Proofs.YtpdahkgandaabaaGreatDoor.Ch
namespace Go.Proofs.YtpdahkgandaabaaGreatDoor.Ch
open Go.RowKit Go.Proofs.YtpdahkgandaabaaGreatDoorW.PrintLast Go.Proofs.YtpdahkgandaabaaGreatDoorW.PrintWords
section
variable {P : Program} {Q : Exit → Act → World → Prop}
theorem wp_count {c : Code} {a : Act} {w : World} (n : Nat) (I : Nat → Act → World → Prop) (hlast : ∀ a w, ¬ I (n + 1) a w)
  (h : ∀ k, k ≤ n → ∀ K : Act → World → Prop, (∀ a w, I (k + 1) a w → K a w) → ∀ a w, I k a w → c.wp P (Exit.then K Q) a w) (h0 : I 0 a w) : (Code.loop c).wp P Q a w := by
 have main : ∀ m k, k + m = n + 1 → ∀ a w, I k a w → RoundAt P Q c a w := by
  intro m
  induction m with
  | zero =>
   intro k hk a w hI
   exact absurd (by rw [← hk]; exact hI) (hlast a w)
  | succ m ih =>
   intro k hk a w hI
   exact round_at (h k (by omega) _ (fun a w hI => ih (k + 1) (by omega) a w hI) a w hI)
 intro b k cs
 obtain ⟨e, a', w', hq, harr⟩ := main (n + 1) 0 (by omega) a w h0 b k cs
 exact ⟨e, a', w', hq, .of_steps (.one step_loop) harr⟩
end
def mark (D : Nat) : Deferred := { target := .collected D, args := #[] }
def Marks (n : Nat) : List Deferred → Nat → World → Prop
 | [], _, _ => True
 | d :: ds, B, W => ∃ D, d = mark D ∧ n ≤ D ∧ D < B ∧ W.heap[D]? = some (.deferred (some [])) ∧ Marks n ds D W
theorem Marks.keep {n : Nat} {W W' : World} : ∀ {ds : List Deferred} {B B' : Nat}, Marks n ds B W → B ≤ B' → (∀ D, D < B → W.heap[D]? = some (.deferred (some [])) → W'.heap[D]? = some (.deferred (some []))) → Marks n ds B' W'
 | [], _, _, _, _, _ => trivial
 | _ :: _, _, _, ⟨D, h1, h2, h3, h4, h5⟩, hB, h => ⟨D, h1, h2, by omega, h D h3 h4, h5.keep (Nat.le_refl _) (fun E hE => h E (by omega))⟩
theorem Marks.below {n B : Nat} {W W' : World} {ds : List Deferred} (h : Marks n ds B W) (hb : Below W.heap.size W W') : Marks n ds B W' :=
 h.keep (Nat.le_refl _) fun D _ hD => by
  have hlt : D < W.heap.size := (Array.getElem?_eq_some_iff.1 hD).1
  exact (hb.block D hlt).trans hD
theorem Marks.setCell {n B : Nat} {W : World} {ds : List Deferred} (h : Marks n ds B W) {b : Nat} {C : Array Value} {t : TypeId} {fr : Nat × Nat} (hb : W.heap[b]? = some (.cells C t fr)) (i : Nat) (v : Value) : Marks n ds B (W.setCell ⟨b, i, none⟩ v) :=
 h.keep (Nat.le_refl _) fun D _ hD => (Below.heap_setCell W ⟨b, i, none⟩ v D (fun e => by subst e; rw [hb] at hD; cases hD)).trans hD
theorem Marks.grown {n B B' : Nat} {W W' : World} {ds : List Deferred} {row : Option Nat} (h : Marks n ds B W) (hB : B ≤ B') (hg : W.grownBy W' row) (hr : ∀ r, row = some r → B' ≤ r) : Marks n ds B W' :=
 h.keep (Nat.le_refl _) fun D hlt hD => (hg.block D (Array.getElem?_eq_some_iff.1 hD).1 (fun e => by have := hr D e.symm; omega)).trans hD
theorem Marks.push {n B : Nat} {W : World} {ds : List Deferred} {D : Nat} (h : Marks n ds B W) (hn : n ≤ D) (hB : B ≤ D) (hD : W.heap[D]? = some (.deferred (some []))) : Marks n (mark D :: ds) W.heap.size W :=
 ⟨D, rfl, hn, (Array.getElem?_eq_some_iff.1 hD).1, hD, h.keep hB (fun _ _ h => h)⟩
theorem leaves_marks {P : Program} {fn : Func} {tmps : Array Value} {R : Ending → World → Prop} {m n : Nat} : ∀ (ds : List Deferred) (B : Nat) (W : World), Marks n ds B W → n ≤ W.heap.size →
  (∀ W', Below n W W' → (∀ (b : Nat) (C : Array Value) (t : TypeId) (fr : Nat × Nat), W.heap[b]? = some (Obj.cells C t fr) → W'.heap[b]? = some (Obj.cells C t fr)) → ∃ v, (results fn tmps).run P W' = .ok v W' ∧ R (.returned v) W') → LeavesInM Fence.wide m P fn tmps R ds .returning W
 | [], _, W, _, _, h => h W (Below.refl _ _) (fun _ _ _ _ h => h)
 | d :: ds, B, W, ⟨D, h1, h2, h3, h4, h5⟩, hn, h => by
  subst h1
  have hb : Below n W (W.putObj D (.deferred none)) := (Below.refl n W).grown (grownBy_putObj' W D _) hn (fun k e => by cases e; exact h2)
  refine ⟨by simp, .inl ⟨D, _, rfl, run_takeDeferred h4, leaves_marks ds D _ (h5.keep (Nat.le_refl _) (fun E hE hh => (World.putObj_heap_other (fun e => by omega)).trans hh)) (by have := hb.size; omega) (fun W' hW hc => h W' (hb.trans hW) (fun b C t fr hh => hc b C t fr ?_))⟩⟩
  exact (World.putObj_heap_other (fun e => by subst e; rw [h4] at hh; cases hh)).trans hh
theorem reach_more {md : Region.Mode} {ops : Array Oper} {i d : Nat} (h : Region.reachB md ops i 1 d = true) : Region.reachB md ops i 2 d = true := by
 unfold Region.reachB at h ⊢
 split at h
 ·
  rename_i o ho
  obtain ⟨e, he, h1⟩ := Array.any_eq_true'.1 h
  refine Array.any_eq_true'.2 ⟨e, he, ?_⟩
  simp only [Region.reachB, Bool.or_false, Bool.and_eq_true, Bool.or_eq_true] at h1 ⊢
  exact ⟨h1.1, .inl h1.2⟩
 ·
  cases h
section
variable {P : Program} {ops : Array Oper} {Q : Exit → Act → World → Prop} {md : Region.Mode} {S : World → Prop} {ds : List Nat}
def takeB1 (md : Region.Mode) (ops : Array Oper) (ds : List Nat) (l l' : Array Bool) (i : Nat) : Bool :=
 Region.noSelect ops && Region.free md ops l i && (Region.ready md ops l).contains i && Region.closedB md ops l && (ds.all fun d => l.getD d true || Region.reachB md ops i 1 d || Region.reachB md ops i 2 d) && (l.setIfInBounds i true == l')
theorem take1_ {i : Nat} {N : Option Tmp} {oi : Oper} {v : Value} {fuel : Nat} {l : Array Bool} {a : Act} {w : World} (l' : Array Bool) (hi : ops[i]? = some oi) (hN : oi.dst = N) (hc : takeB1 md ops ds l l' i = true)
  (hQ : ∀ c a w, Q (.panic c) (a.put oi.dst v) w → Q (.panic c) a w) (hy : YieldsIf P ops S oi v a) (hS : S w) {a' : Act} (ha : a.put N v = a')
  (h : wpAnyLast P md ops Q S ds fuel l' a' w) : wpAnyLast P md ops Q S ds (fuel + 1) l a w := by
 subst ha
 subst hN
 simp only [takeB1, Bool.and_eq_true, beq_iff_eq] at hc
 obtain ⟨⟨⟨⟨⟨h1, h2⟩, h3⟩, h4⟩, h5⟩, h6⟩ := hc
 subst h6
 refine wpAnyLast_first hi (Region.noSelect_spec h1) hQ 2 fuel l a w (Region.free_spec hi h2) (Region.closedB_spec h4) (fun d hm hun => ?_) (by simpa using h3) hy hS h
 have h7 := List.all_eq_true.1 h5 d hm
 rw [hun] at h7
 simp only [Bool.false_or, Bool.or_eq_true] at h7
 rcases h7 with h7 | h7
 ·
  exact reach_more h7
 ·
  exact h7
end
theorem wp_still {P : Program} {c : Code} {Q : Exit → Act → World → Prop} {a : Act} {w : World} (h : c.wp P (fun e a w => match e with | .panic _ => False | e => Q e a w) a w) : c.wp P Q a w :=
 Code.wp_mono (fun e a w h => by cases e <;> first | exact h | exact h.elim) h
end Go.Proofs.YtpdahkgandaabaaGreatDoor.Ch
