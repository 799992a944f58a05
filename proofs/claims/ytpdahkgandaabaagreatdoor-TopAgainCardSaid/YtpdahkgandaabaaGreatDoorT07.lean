/- A part of the proof of TopAgain, where the package's tables hold what their initialisers lay. -/
import Derived.Test.YtpdahkgandaabaaGreatDoorT01
import Derived.Test.YtpdahkgandaabaaGreatDoorT06
namespace Go.Proofs.YtpdahkgandaabaaGreatDoor.Ch
open Go.RowKit Go.Proofs.YtpdahkgandaabaaGreatDoorW.PrintWords Go.Proofs.YtpdahkgandaabaaGreatDoorW.PrintLast Go.Proofs.YtpdahkgandaabaaGreatDoorW.PrintMore Go.Proofs.YtpdahkgandaabaaGreatDoor.PTopNames Go.Proofs.YtpdahkgandaabaaGreatDoor.Al
set_option linter.unusedVariables false
set_option linter.unusedSimpArgs false
def sym (m0 m1 m2 m3 m4 m5 : Int) : Value := .agg #[m0, m1, m2, m3, m4, m5]
theorem six_set {w0 w : World} {b : Nat} {C : Array Value} (hC : C.size = 6) (hX : w.heap[b]? = some (.cells C 46 (0, 0))) (g : w0.heap.size ≤ b) (hB : Below w0.heap.size w0 w) (x0 x1 x2 x3 x4 x5 : Value) :
  ((((((w.setCell ⟨b, 0, none⟩ x0).setCell ⟨b, 1, none⟩ x1).setCell ⟨b, 2, none⟩ x2).setCell ⟨b, 3, none⟩ x3).setCell ⟨b, 4, none⟩ x4).setCell ⟨b, 5, none⟩ x5).heap[b]? = some (.cells #[x0, x1, x2, x3, x4, x5] 46 (0, 0)) ∧
  Below w0.heap.size w0 ((((((w.setCell ⟨b, 0, none⟩ x0).setCell ⟨b, 1, none⟩ x1).setCell ⟨b, 2, none⟩ x2).setCell ⟨b, 3, none⟩ x3).setCell ⟨b, 4, none⟩ x4).setCell ⟨b, 5, none⟩ x5) := by
 obtain ⟨c0, c1, c2, c3, c4, c5, rfl⟩ : ∃ c0 c1 c2 c3 c4 c5, C = #[c0, c1, c2, c3, c4, c5] := by
  obtain ⟨l⟩ := C
  match l, hC with
  | [c0, c1, c2, c3, c4, c5], _ => exact ⟨c0, c1, c2, c3, c4, c5, rfl⟩
 exact ⟨blk_set (blk_set (blk_set (blk_set (blk_set (blk_set hX 0 x0) 1 x1) 2 x2) 3 x3) 4 x4) 5 x5, (((((hB.setCell (p := ⟨b, 0, none⟩) g x0).setCell (p := ⟨b, 1, none⟩) g x1).setCell (p := ⟨b, 2, none⟩) g x2).setCell (p := ⟨b, 3, none⟩) g x3).setCell (p := ⟨b, 4, none⟩) g x4).setCell (p := ⟨b, 5, none⟩) g x5⟩
set_option maxRecDepth 100000 in
set_option maxHeartbeats 4000000 in
theorem place_tells (i j : Int) (hi : i = 0 ∨ i = 1 ∨ i = 2) (hj : j = 0 ∨ j = 1 ∨ j = 2) : ∃ k, (k = 0 ∨ k = 1 ∨ k = 2 ∨ k = 3 ∨ k = 4 ∨ k = 5) ∧ Tells 148 #[i, j] (Ch.two k 0) := by
 unfold Ch.two
 rcases hi with rfl | rfl | rfl <;> rcases hj with rfl | rfl | rfl
 ·
  refine ⟨0, by decide, fun w hG => ?_⟩
  have x : w.cell? ⟨3, 0, none⟩ = some (.int .i64 0) := hG.places 0
  clear hG
  go_enter Tryz.func148, Tryz.ntmps148
  go_wp2_with fail
  go_ret2
  exact ⟨rfl, Below.refl _ _⟩
 ·
  refine ⟨1, by decide, fun w hG => ?_⟩
  have x : w.cell? ⟨3, 1, none⟩ = some (.int .i64 1) := hG.places 1
  clear hG
  go_enter Tryz.func148, Tryz.ntmps148
  go_wp2_with fail
  go_ret2
  exact ⟨rfl, Below.refl _ _⟩
 ·
  refine ⟨2, by decide, fun w hG => ?_⟩
  have x : w.cell? ⟨3, 2, none⟩ = some (.int .i64 2) := hG.places 2
  clear hG
  go_enter Tryz.func148, Tryz.ntmps148
  go_wp2_with fail
  go_ret2
  exact ⟨rfl, Below.refl _ _⟩
 ·
  refine ⟨1, by decide, fun w hG => ?_⟩
  have x : w.cell? ⟨3, 3, none⟩ = some (.int .i64 1) := hG.places 3
  clear hG
  go_enter Tryz.func148, Tryz.ntmps148
  go_wp2_with fail
  go_ret2
  exact ⟨rfl, Below.refl _ _⟩
 ·
  refine ⟨3, by decide, fun w hG => ?_⟩
  have x : w.cell? ⟨3, 4, none⟩ = some (.int .i64 3) := hG.places 4
  clear hG
  go_enter Tryz.func148, Tryz.ntmps148
  go_wp2_with fail
  go_ret2
  exact ⟨rfl, Below.refl _ _⟩
 ·
  refine ⟨4, by decide, fun w hG => ?_⟩
  have x : w.cell? ⟨3, 5, none⟩ = some (.int .i64 4) := hG.places 5
  clear hG
  go_enter Tryz.func148, Tryz.ntmps148
  go_wp2_with fail
  go_ret2
  exact ⟨rfl, Below.refl _ _⟩
 ·
  refine ⟨2, by decide, fun w hG => ?_⟩
  have x : w.cell? ⟨3, 6, none⟩ = some (.int .i64 2) := hG.places 6
  clear hG
  go_enter Tryz.func148, Tryz.ntmps148
  go_wp2_with fail
  go_ret2
  exact ⟨rfl, Below.refl _ _⟩
 ·
  refine ⟨4, by decide, fun w hG => ?_⟩
  have x : w.cell? ⟨3, 7, none⟩ = some (.int .i64 4) := hG.places 7
  clear hG
  go_enter Tryz.func148, Tryz.ntmps148
  go_wp2_with fail
  go_ret2
  exact ⟨rfl, Below.refl _ _⟩
 refine ⟨5, by decide, fun w hG => ?_⟩
 have x : w.cell? ⟨3, 8, none⟩ = some (.int .i64 5) := hG.places 8
 clear hG
 go_enter Tryz.func148, Tryz.ntmps148
 go_wp2_with fail
 go_ret2
 exact ⟨rfl, Below.refl _ _⟩
set_option maxRecDepth 100000 in
set_option maxHeartbeats 4000000 in
theorem at_tells (m0 m1 m2 m3 m4 m5 i j : Int) (hi : i = 0 ∨ i = 1 ∨ i = 2) (hj : j = 0 ∨ j = 1 ∨ j = 2) : ∃ x, Tells 118 #[sym m0 m1 m2 m3 m4 m5, i, j] (Ch.two x 0) := by
 obtain ⟨k, hk, hp⟩ := place_tells i j hi hj
 have HP := am hp
 clear hp hi hj
 unfold Ch.two at HP ⊢
 unfold sym
 rcases hk with rfl | rfl | rfl | rfl | rfl | rfl
 ·
  refine ⟨m0, fun w hG => ?_⟩
  have HG := am hG
  clear hG
  go_enter Tryz.func118, Tryz.ntmps118
  go_upto_region 1 with fail
  have HX := am (blk_new w (.cells #[m0, m1, m2, m3, m4, m5] 46))
  have HB := am (below_alloc (Below.refl w.heap.size w) (.cells #[m0, m1, m2, m3, m4, m5] 46))
  generalize w.alloc (.cells #[m0, m1, m2, m3, m4, m5] 46) = w1 at HX HB ⊢
  generalize w.heap.size = b3 at HX ⊢
  go_wp2_with fail
  refine (HP.out w1 (HG.out.below HB.out)).mono ?_
  rintro e w2 ⟨rfl, hb⟩
  replace HX := b_b HX hb
  replace HB := b_s HB hb
  clear hb
  have y30 := b_l HX 0 rfl
  have y31 := b_l HX 1 rfl
  have y32 := b_l HX 2 rfl
  have y33 := b_l HX 3 rfl
  have y34 := b_l HX 4 rfl
  have y35 := b_l HX 5 rfl
  go_wp2_with fail
  go_ret2
  exact ⟨rfl, HB.out⟩
 ·
  refine ⟨m1, fun w hG => ?_⟩
  have HG := am hG
  clear hG
  go_enter Tryz.func118, Tryz.ntmps118
  go_upto_region 1 with fail
  have HX := am (blk_new w (.cells #[m0, m1, m2, m3, m4, m5] 46))
  have HB := am (below_alloc (Below.refl w.heap.size w) (.cells #[m0, m1, m2, m3, m4, m5] 46))
  generalize w.alloc (.cells #[m0, m1, m2, m3, m4, m5] 46) = w1 at HX HB ⊢
  generalize w.heap.size = b3 at HX ⊢
  go_wp2_with fail
  refine (HP.out w1 (HG.out.below HB.out)).mono ?_
  rintro e w2 ⟨rfl, hb⟩
  replace HX := b_b HX hb
  replace HB := b_s HB hb
  clear hb
  have y30 := b_l HX 0 rfl
  have y31 := b_l HX 1 rfl
  have y32 := b_l HX 2 rfl
  have y33 := b_l HX 3 rfl
  have y34 := b_l HX 4 rfl
  have y35 := b_l HX 5 rfl
  go_wp2_with fail
  go_ret2
  exact ⟨rfl, HB.out⟩
 ·
  refine ⟨m2, fun w hG => ?_⟩
  have HG := am hG
  clear hG
  go_enter Tryz.func118, Tryz.ntmps118
  go_upto_region 1 with fail
  have HX := am (blk_new w (.cells #[m0, m1, m2, m3, m4, m5] 46))
  have HB := am (below_alloc (Below.refl w.heap.size w) (.cells #[m0, m1, m2, m3, m4, m5] 46))
  generalize w.alloc (.cells #[m0, m1, m2, m3, m4, m5] 46) = w1 at HX HB ⊢
  generalize w.heap.size = b3 at HX ⊢
  go_wp2_with fail
  refine (HP.out w1 (HG.out.below HB.out)).mono ?_
  rintro e w2 ⟨rfl, hb⟩
  replace HX := b_b HX hb
  replace HB := b_s HB hb
  clear hb
  have y30 := b_l HX 0 rfl
  have y31 := b_l HX 1 rfl
  have y32 := b_l HX 2 rfl
  have y33 := b_l HX 3 rfl
  have y34 := b_l HX 4 rfl
  have y35 := b_l HX 5 rfl
  go_wp2_with fail
  go_ret2
  exact ⟨rfl, HB.out⟩
 ·
  refine ⟨m3, fun w hG => ?_⟩
  have HG := am hG
  clear hG
  go_enter Tryz.func118, Tryz.ntmps118
  go_upto_region 1 with fail
  have HX := am (blk_new w (.cells #[m0, m1, m2, m3, m4, m5] 46))
  have HB := am (below_alloc (Below.refl w.heap.size w) (.cells #[m0, m1, m2, m3, m4, m5] 46))
  generalize w.alloc (.cells #[m0, m1, m2, m3, m4, m5] 46) = w1 at HX HB ⊢
  generalize w.heap.size = b3 at HX ⊢
  go_wp2_with fail
  refine (HP.out w1 (HG.out.below HB.out)).mono ?_
  rintro e w2 ⟨rfl, hb⟩
  replace HX := b_b HX hb
  replace HB := b_s HB hb
  clear hb
  have y30 := b_l HX 0 rfl
  have y31 := b_l HX 1 rfl
  have y32 := b_l HX 2 rfl
  have y33 := b_l HX 3 rfl
  have y34 := b_l HX 4 rfl
  have y35 := b_l HX 5 rfl
  go_wp2_with fail
  go_ret2
  exact ⟨rfl, HB.out⟩
 ·
  refine ⟨m4, fun w hG => ?_⟩
  have HG := am hG
  clear hG
  go_enter Tryz.func118, Tryz.ntmps118
  go_upto_region 1 with fail
  have HX := am (blk_new w (.cells #[m0, m1, m2, m3, m4, m5] 46))
  have HB := am (below_alloc (Below.refl w.heap.size w) (.cells #[m0, m1, m2, m3, m4, m5] 46))
  generalize w.alloc (.cells #[m0, m1, m2, m3, m4, m5] 46) = w1 at HX HB ⊢
  generalize w.heap.size = b3 at HX ⊢
  go_wp2_with fail
  refine (HP.out w1 (HG.out.below HB.out)).mono ?_
  rintro e w2 ⟨rfl, hb⟩
  replace HX := b_b HX hb
  replace HB := b_s HB hb
  clear hb
  have y30 := b_l HX 0 rfl
  have y31 := b_l HX 1 rfl
  have y32 := b_l HX 2 rfl
  have y33 := b_l HX 3 rfl
  have y34 := b_l HX 4 rfl
  have y35 := b_l HX 5 rfl
  go_wp2_with fail
  go_ret2
  exact ⟨rfl, HB.out⟩
 refine ⟨m5, fun w hG => ?_⟩
 have HG := am hG
 clear hG
 go_enter Tryz.func118, Tryz.ntmps118
 go_upto_region 1 with fail
 have HX := am (blk_new w (.cells #[m0, m1, m2, m3, m4, m5] 46))
 have HB := am (below_alloc (Below.refl w.heap.size w) (.cells #[m0, m1, m2, m3, m4, m5] 46))
 generalize w.alloc (.cells #[m0, m1, m2, m3, m4, m5] 46) = w1 at HX HB ⊢
 generalize w.heap.size = b3 at HX ⊢
 go_wp2_with fail
 refine (HP.out w1 (HG.out.below HB.out)).mono ?_
 rintro e w2 ⟨rfl, hb⟩
 replace HX := b_b HX hb
 replace HB := b_s HB hb
 clear hb
 have y30 := b_l HX 0 rfl
 have y31 := b_l HX 1 rfl
 have y32 := b_l HX 2 rfl
 have y33 := b_l HX 3 rfl
 have y34 := b_l HX 4 rfl
 have y35 := b_l HX 5 rfl
 go_wp2_with fail
 go_ret2
 exact ⟨rfl, HB.out⟩
set_option maxRecDepth 100000 in
set_option maxHeartbeats 4000000 in
theorem put_tells (m0 m1 m2 m3 m4 m5 i j x : Int) (hi : i = 0 ∨ i = 1 ∨ i = 2) (hj : j = 0 ∨ j = 1 ∨ j = 2) : ∃ n0 n1 n2 n3 n4 n5, Tells 121 #[sym m0 m1 m2 m3 m4 m5, i, j, x] (.tuple #[sym n0 n1 n2 n3 n4 n5, ()]) := by
 obtain ⟨k, hk, hp⟩ := place_tells i j hi hj
 have HP := am hp
 clear hp hi hj
 unfold Ch.two at HP
 unfold sym
 rcases hk with rfl | rfl | rfl | rfl | rfl | rfl
 ·
  refine ⟨x, m1, m2, m3, m4, m5, fun w hG => ?_⟩
  have HG := am hG
  clear hG
  go_enter Tryz.func121, Tryz.ntmps121
  go_upto_region 1 with fail
  obtain ⟨x2, x3, hB⟩ := blocks2 w #[m0, m1, m2, m3, m4, m5] #[(), (), (), (), (), ()] 46 46
  generalize (w.alloc (.cells #[m0, m1, m2, m3, m4, m5] 46)).alloc (.cells #[(), (), (), (), (), ()] 46) = w1 at x2 x3 hB ⊢
  obtain ⟨b4, h4⟩ := e_x (w.heap.size)
  obtain ⟨b8, h8⟩ := e_x (w.heap.size + 1)
  have g4 : w.heap.size ≤ b4 := by omega
  have g8 : w.heap.size ≤ b8 := by omega
  have ne : b8 ≠ b4 := by omega
  rw [← h8, ← h4]
  rw [← h8] at x3
  rw [← h4] at x2
  have HX := am x2
  have HY := am x3
  have HB := am hB
  clear x2 x3 hB h4 h8
  go_wp2_with fail
  refine (HP.out w1 (HG.out.below HB.out)).mono ?_
  rintro e w2 ⟨rfl, hb⟩
  replace HX := b_b HX hb
  replace HY := b_b HY hb
  replace HB := b_s HB hb
  clear hb
  have y40 := b_l HX 0 rfl
  have y41 := b_l HX 1 rfl
  have y42 := b_l HX 2 rfl
  have y43 := b_l HX 3 rfl
  have y44 := b_l HX 4 rfl
  have y45 := b_l HX 5 rfl
  have f4 := b_z HX 0
  go_upto_region 5 with fail
  have q := (blk_set HX.out 0 (.int .i64 x)).trans (show _ = some (Obj.cells #[x, m1, m2, m3, m4, m5] 46 (0, 0)) by kernel_rfl)
  have qy := blk_far HY.out (p := ⟨b4, 0, none⟩) ne (.int .i64 x)
  have qb := HB.out.setCell (p := ⟨b4, 0, none⟩) g4 (.int .i64 x)
  clear y40 y41 y42 y43 y44 y45 f4
  generalize w2.setCell ⟨b4, 0, none⟩ (.int .i64 x) = w3 at q qy qb ⊢
  replace HX := am q
  replace HY := am qy
  replace HB := am qb
  clear q qy qb
  have y40 := b_l HX 0 rfl
  have y41 := b_l HX 1 rfl
  have y42 := b_l HX 2 rfl
  have y43 := b_l HX 3 rfl
  have y44 := b_l HX 4 rfl
  have y45 := b_l HX 5 rfl
  have y80 := b_l HY 0 rfl
  have f80 := b_z HY 0
  have y81 := b_l HY 1 rfl
  have f81 := b_z HY 1
  have y82 := b_l HY 2 rfl
  have f82 := b_z HY 2
  have y83 := b_l HY 3 rfl
  have f83 := b_z HY 3
  have y84 := b_l HY 4 rfl
  have f84 := b_z HY 4
  have y85 := b_l HY 5 rfl
  have f85 := b_z HY 5
  go_wp2_with fail
  obtain ⟨q, qb⟩ := six_set rfl HY.out g8 HB.out (.int .i64 x) (.int .i64 m1) (.int .i64 m2) (.int .i64 m3) (.int .i64 m4) (.int .i64 m5)
  exact bodyPost_ret (results_ct rfl _ _ b8 46 _ (0, 0) _ rfl q Tryz.underlying46 rfl (by kernel_rfl)) rfl ⟨rfl, qb⟩
 ·
  refine ⟨m0, x, m2, m3, m4, m5, fun w hG => ?_⟩
  have HG := am hG
  clear hG
  go_enter Tryz.func121, Tryz.ntmps121
  go_upto_region 1 with fail
  obtain ⟨x2, x3, hB⟩ := blocks2 w #[m0, m1, m2, m3, m4, m5] #[(), (), (), (), (), ()] 46 46
  generalize (w.alloc (.cells #[m0, m1, m2, m3, m4, m5] 46)).alloc (.cells #[(), (), (), (), (), ()] 46) = w1 at x2 x3 hB ⊢
  obtain ⟨b4, h4⟩ := e_x (w.heap.size)
  obtain ⟨b8, h8⟩ := e_x (w.heap.size + 1)
  have g4 : w.heap.size ≤ b4 := by omega
  have g8 : w.heap.size ≤ b8 := by omega
  have ne : b8 ≠ b4 := by omega
  rw [← h8, ← h4]
  rw [← h8] at x3
  rw [← h4] at x2
  have HX := am x2
  have HY := am x3
  have HB := am hB
  clear x2 x3 hB h4 h8
  go_wp2_with fail
  refine (HP.out w1 (HG.out.below HB.out)).mono ?_
  rintro e w2 ⟨rfl, hb⟩
  replace HX := b_b HX hb
  replace HY := b_b HY hb
  replace HB := b_s HB hb
  clear hb
  have y40 := b_l HX 0 rfl
  have y41 := b_l HX 1 rfl
  have y42 := b_l HX 2 rfl
  have y43 := b_l HX 3 rfl
  have y44 := b_l HX 4 rfl
  have y45 := b_l HX 5 rfl
  have f4 := b_z HX 1
  go_upto_region 5 with fail
  have q := (blk_set HX.out 1 (.int .i64 x)).trans (show _ = some (Obj.cells #[m0, x, m2, m3, m4, m5] 46 (0, 0)) by kernel_rfl)
  have qy := blk_far HY.out (p := ⟨b4, 1, none⟩) ne (.int .i64 x)
  have qb := HB.out.setCell (p := ⟨b4, 1, none⟩) g4 (.int .i64 x)
  clear y40 y41 y42 y43 y44 y45 f4
  generalize w2.setCell ⟨b4, 1, none⟩ (.int .i64 x) = w3 at q qy qb ⊢
  replace HX := am q
  replace HY := am qy
  replace HB := am qb
  clear q qy qb
  have y40 := b_l HX 0 rfl
  have y41 := b_l HX 1 rfl
  have y42 := b_l HX 2 rfl
  have y43 := b_l HX 3 rfl
  have y44 := b_l HX 4 rfl
  have y45 := b_l HX 5 rfl
  have y80 := b_l HY 0 rfl
  have f80 := b_z HY 0
  have y81 := b_l HY 1 rfl
  have f81 := b_z HY 1
  have y82 := b_l HY 2 rfl
  have f82 := b_z HY 2
  have y83 := b_l HY 3 rfl
  have f83 := b_z HY 3
  have y84 := b_l HY 4 rfl
  have f84 := b_z HY 4
  have y85 := b_l HY 5 rfl
  have f85 := b_z HY 5
  go_wp2_with fail
  obtain ⟨q, qb⟩ := six_set rfl HY.out g8 HB.out (.int .i64 m0) (.int .i64 x) (.int .i64 m2) (.int .i64 m3) (.int .i64 m4) (.int .i64 m5)
  exact bodyPost_ret (results_ct rfl _ _ b8 46 _ (0, 0) _ rfl q Tryz.underlying46 rfl (by kernel_rfl)) rfl ⟨rfl, qb⟩
 ·
  refine ⟨m0, m1, x, m3, m4, m5, fun w hG => ?_⟩
  have HG := am hG
  clear hG
  go_enter Tryz.func121, Tryz.ntmps121
  go_upto_region 1 with fail
  obtain ⟨x2, x3, hB⟩ := blocks2 w #[m0, m1, m2, m3, m4, m5] #[(), (), (), (), (), ()] 46 46
  generalize (w.alloc (.cells #[m0, m1, m2, m3, m4, m5] 46)).alloc (.cells #[(), (), (), (), (), ()] 46) = w1 at x2 x3 hB ⊢
  obtain ⟨b4, h4⟩ := e_x (w.heap.size)
  obtain ⟨b8, h8⟩ := e_x (w.heap.size + 1)
  have g4 : w.heap.size ≤ b4 := by omega
  have g8 : w.heap.size ≤ b8 := by omega
  have ne : b8 ≠ b4 := by omega
  rw [← h8, ← h4]
  rw [← h8] at x3
  rw [← h4] at x2
  have HX := am x2
  have HY := am x3
  have HB := am hB
  clear x2 x3 hB h4 h8
  go_wp2_with fail
  refine (HP.out w1 (HG.out.below HB.out)).mono ?_
  rintro e w2 ⟨rfl, hb⟩
  replace HX := b_b HX hb
  replace HY := b_b HY hb
  replace HB := b_s HB hb
  clear hb
  have y40 := b_l HX 0 rfl
  have y41 := b_l HX 1 rfl
  have y42 := b_l HX 2 rfl
  have y43 := b_l HX 3 rfl
  have y44 := b_l HX 4 rfl
  have y45 := b_l HX 5 rfl
  have f4 := b_z HX 2
  go_upto_region 5 with fail
  have q := (blk_set HX.out 2 (.int .i64 x)).trans (show _ = some (Obj.cells #[m0, m1, x, m3, m4, m5] 46 (0, 0)) by kernel_rfl)
  have qy := blk_far HY.out (p := ⟨b4, 2, none⟩) ne (.int .i64 x)
  have qb := HB.out.setCell (p := ⟨b4, 2, none⟩) g4 (.int .i64 x)
  clear y40 y41 y42 y43 y44 y45 f4
  generalize w2.setCell ⟨b4, 2, none⟩ (.int .i64 x) = w3 at q qy qb ⊢
  replace HX := am q
  replace HY := am qy
  replace HB := am qb
  clear q qy qb
  have y40 := b_l HX 0 rfl
  have y41 := b_l HX 1 rfl
  have y42 := b_l HX 2 rfl
  have y43 := b_l HX 3 rfl
  have y44 := b_l HX 4 rfl
  have y45 := b_l HX 5 rfl
  have y80 := b_l HY 0 rfl
  have f80 := b_z HY 0
  have y81 := b_l HY 1 rfl
  have f81 := b_z HY 1
  have y82 := b_l HY 2 rfl
  have f82 := b_z HY 2
  have y83 := b_l HY 3 rfl
  have f83 := b_z HY 3
  have y84 := b_l HY 4 rfl
  have f84 := b_z HY 4
  have y85 := b_l HY 5 rfl
  have f85 := b_z HY 5
  go_wp2_with fail
  obtain ⟨q, qb⟩ := six_set rfl HY.out g8 HB.out (.int .i64 m0) (.int .i64 m1) (.int .i64 x) (.int .i64 m3) (.int .i64 m4) (.int .i64 m5)
  exact bodyPost_ret (results_ct rfl _ _ b8 46 _ (0, 0) _ rfl q Tryz.underlying46 rfl (by kernel_rfl)) rfl ⟨rfl, qb⟩
 ·
  refine ⟨m0, m1, m2, x, m4, m5, fun w hG => ?_⟩
  have HG := am hG
  clear hG
  go_enter Tryz.func121, Tryz.ntmps121
  go_upto_region 1 with fail
  obtain ⟨x2, x3, hB⟩ := blocks2 w #[m0, m1, m2, m3, m4, m5] #[(), (), (), (), (), ()] 46 46
  generalize (w.alloc (.cells #[m0, m1, m2, m3, m4, m5] 46)).alloc (.cells #[(), (), (), (), (), ()] 46) = w1 at x2 x3 hB ⊢
  obtain ⟨b4, h4⟩ := e_x (w.heap.size)
  obtain ⟨b8, h8⟩ := e_x (w.heap.size + 1)
  have g4 : w.heap.size ≤ b4 := by omega
  have g8 : w.heap.size ≤ b8 := by omega
  have ne : b8 ≠ b4 := by omega
  rw [← h8, ← h4]
  rw [← h8] at x3
  rw [← h4] at x2
  have HX := am x2
  have HY := am x3
  have HB := am hB
  clear x2 x3 hB h4 h8
  go_wp2_with fail
  refine (HP.out w1 (HG.out.below HB.out)).mono ?_
  rintro e w2 ⟨rfl, hb⟩
  replace HX := b_b HX hb
  replace HY := b_b HY hb
  replace HB := b_s HB hb
  clear hb
  have y40 := b_l HX 0 rfl
  have y41 := b_l HX 1 rfl
  have y42 := b_l HX 2 rfl
  have y43 := b_l HX 3 rfl
  have y44 := b_l HX 4 rfl
  have y45 := b_l HX 5 rfl
  have f4 := b_z HX 3
  go_upto_region 5 with fail
  have q := (blk_set HX.out 3 (.int .i64 x)).trans (show _ = some (Obj.cells #[m0, m1, m2, x, m4, m5] 46 (0, 0)) by kernel_rfl)
  have qy := blk_far HY.out (p := ⟨b4, 3, none⟩) ne (.int .i64 x)
  have qb := HB.out.setCell (p := ⟨b4, 3, none⟩) g4 (.int .i64 x)
  clear y40 y41 y42 y43 y44 y45 f4
  generalize w2.setCell ⟨b4, 3, none⟩ (.int .i64 x) = w3 at q qy qb ⊢
  replace HX := am q
  replace HY := am qy
  replace HB := am qb
  clear q qy qb
  have y40 := b_l HX 0 rfl
  have y41 := b_l HX 1 rfl
  have y42 := b_l HX 2 rfl
  have y43 := b_l HX 3 rfl
  have y44 := b_l HX 4 rfl
  have y45 := b_l HX 5 rfl
  have y80 := b_l HY 0 rfl
  have f80 := b_z HY 0
  have y81 := b_l HY 1 rfl
  have f81 := b_z HY 1
  have y82 := b_l HY 2 rfl
  have f82 := b_z HY 2
  have y83 := b_l HY 3 rfl
  have f83 := b_z HY 3
  have y84 := b_l HY 4 rfl
  have f84 := b_z HY 4
  have y85 := b_l HY 5 rfl
  have f85 := b_z HY 5
  go_wp2_with fail
  obtain ⟨q, qb⟩ := six_set rfl HY.out g8 HB.out (.int .i64 m0) (.int .i64 m1) (.int .i64 m2) (.int .i64 x) (.int .i64 m4) (.int .i64 m5)
  exact bodyPost_ret (results_ct rfl _ _ b8 46 _ (0, 0) _ rfl q Tryz.underlying46 rfl (by kernel_rfl)) rfl ⟨rfl, qb⟩
 ·
  refine ⟨m0, m1, m2, m3, x, m5, fun w hG => ?_⟩
  have HG := am hG
  clear hG
  go_enter Tryz.func121, Tryz.ntmps121
  go_upto_region 1 with fail
  obtain ⟨x2, x3, hB⟩ := blocks2 w #[m0, m1, m2, m3, m4, m5] #[(), (), (), (), (), ()] 46 46
  generalize (w.alloc (.cells #[m0, m1, m2, m3, m4, m5] 46)).alloc (.cells #[(), (), (), (), (), ()] 46) = w1 at x2 x3 hB ⊢
  obtain ⟨b4, h4⟩ := e_x (w.heap.size)
  obtain ⟨b8, h8⟩ := e_x (w.heap.size + 1)
  have g4 : w.heap.size ≤ b4 := by omega
  have g8 : w.heap.size ≤ b8 := by omega
  have ne : b8 ≠ b4 := by omega
  rw [← h8, ← h4]
  rw [← h8] at x3
  rw [← h4] at x2
  have HX := am x2
  have HY := am x3
  have HB := am hB
  clear x2 x3 hB h4 h8
  go_wp2_with fail
  refine (HP.out w1 (HG.out.below HB.out)).mono ?_
  rintro e w2 ⟨rfl, hb⟩
  replace HX := b_b HX hb
  replace HY := b_b HY hb
  replace HB := b_s HB hb
  clear hb
  have y40 := b_l HX 0 rfl
  have y41 := b_l HX 1 rfl
  have y42 := b_l HX 2 rfl
  have y43 := b_l HX 3 rfl
  have y44 := b_l HX 4 rfl
  have y45 := b_l HX 5 rfl
  have f4 := b_z HX 4
  go_upto_region 5 with fail
  have q := (blk_set HX.out 4 (.int .i64 x)).trans (show _ = some (Obj.cells #[m0, m1, m2, m3, x, m5] 46 (0, 0)) by kernel_rfl)
  have qy := blk_far HY.out (p := ⟨b4, 4, none⟩) ne (.int .i64 x)
  have qb := HB.out.setCell (p := ⟨b4, 4, none⟩) g4 (.int .i64 x)
  clear y40 y41 y42 y43 y44 y45 f4
  generalize w2.setCell ⟨b4, 4, none⟩ (.int .i64 x) = w3 at q qy qb ⊢
  replace HX := am q
  replace HY := am qy
  replace HB := am qb
  clear q qy qb
  have y40 := b_l HX 0 rfl
  have y41 := b_l HX 1 rfl
  have y42 := b_l HX 2 rfl
  have y43 := b_l HX 3 rfl
  have y44 := b_l HX 4 rfl
  have y45 := b_l HX 5 rfl
  have y80 := b_l HY 0 rfl
  have f80 := b_z HY 0
  have y81 := b_l HY 1 rfl
  have f81 := b_z HY 1
  have y82 := b_l HY 2 rfl
  have f82 := b_z HY 2
  have y83 := b_l HY 3 rfl
  have f83 := b_z HY 3
  have y84 := b_l HY 4 rfl
  have f84 := b_z HY 4
  have y85 := b_l HY 5 rfl
  have f85 := b_z HY 5
  go_wp2_with fail
  obtain ⟨q, qb⟩ := six_set rfl HY.out g8 HB.out (.int .i64 m0) (.int .i64 m1) (.int .i64 m2) (.int .i64 m3) (.int .i64 x) (.int .i64 m5)
  exact bodyPost_ret (results_ct rfl _ _ b8 46 _ (0, 0) _ rfl q Tryz.underlying46 rfl (by kernel_rfl)) rfl ⟨rfl, qb⟩
 refine ⟨m0, m1, m2, m3, m4, x, fun w hG => ?_⟩
 have HG := am hG
 clear hG
 go_enter Tryz.func121, Tryz.ntmps121
 go_upto_region 1 with fail
 obtain ⟨x2, x3, hB⟩ := blocks2 w #[m0, m1, m2, m3, m4, m5] #[(), (), (), (), (), ()] 46 46
 generalize (w.alloc (.cells #[m0, m1, m2, m3, m4, m5] 46)).alloc (.cells #[(), (), (), (), (), ()] 46) = w1 at x2 x3 hB ⊢
 obtain ⟨b4, h4⟩ := e_x (w.heap.size)
 obtain ⟨b8, h8⟩ := e_x (w.heap.size + 1)
 have g4 : w.heap.size ≤ b4 := by omega
 have g8 : w.heap.size ≤ b8 := by omega
 have ne : b8 ≠ b4 := by omega
 rw [← h8, ← h4]
 rw [← h8] at x3
 rw [← h4] at x2
 have HX := am x2
 have HY := am x3
 have HB := am hB
 clear x2 x3 hB h4 h8
 go_wp2_with fail
 refine (HP.out w1 (HG.out.below HB.out)).mono ?_
 rintro e w2 ⟨rfl, hb⟩
 replace HX := b_b HX hb
 replace HY := b_b HY hb
 replace HB := b_s HB hb
 clear hb
 have y40 := b_l HX 0 rfl
 have y41 := b_l HX 1 rfl
 have y42 := b_l HX 2 rfl
 have y43 := b_l HX 3 rfl
 have y44 := b_l HX 4 rfl
 have y45 := b_l HX 5 rfl
 have f4 := b_z HX 5
 go_upto_region 5 with fail
 have q := (blk_set HX.out 5 (.int .i64 x)).trans (show _ = some (Obj.cells #[m0, m1, m2, m3, m4, x] 46 (0, 0)) by kernel_rfl)
 have qy := blk_far HY.out (p := ⟨b4, 5, none⟩) ne (.int .i64 x)
 have qb := HB.out.setCell (p := ⟨b4, 5, none⟩) g4 (.int .i64 x)
 clear y40 y41 y42 y43 y44 y45 f4
 generalize w2.setCell ⟨b4, 5, none⟩ (.int .i64 x) = w3 at q qy qb ⊢
 replace HX := am q
 replace HY := am qy
 replace HB := am qb
 clear q qy qb
 have y40 := b_l HX 0 rfl
 have y41 := b_l HX 1 rfl
 have y42 := b_l HX 2 rfl
 have y43 := b_l HX 3 rfl
 have y44 := b_l HX 4 rfl
 have y45 := b_l HX 5 rfl
 have y80 := b_l HY 0 rfl
 have f80 := b_z HY 0
 have y81 := b_l HY 1 rfl
 have f81 := b_z HY 1
 have y82 := b_l HY 2 rfl
 have f82 := b_z HY 2
 have y83 := b_l HY 3 rfl
 have f83 := b_z HY 3
 have y84 := b_l HY 4 rfl
 have f84 := b_z HY 4
 have y85 := b_l HY 5 rfl
 have f85 := b_z HY 5
 go_wp2_with fail
 obtain ⟨q, qb⟩ := six_set rfl HY.out g8 HB.out (.int .i64 m0) (.int .i64 m1) (.int .i64 m2) (.int .i64 m3) (.int .i64 m4) (.int .i64 x)
 exact bodyPost_ret (results_ct rfl _ _ b8 46 _ (0, 0) _ rfl q Tryz.underlying46 rfl (by kernel_rfl)) rfl ⟨rfl, qb⟩
set_option maxRecDepth 100000 in
set_option maxHeartbeats 4000000 in
theorem main_tells (m0 m1 m2 m3 m4 m5 : Int) : Tells 137 #[sym m0 m1 m2 m3 m4 m5] (vec m0 m3 m5) := by
 intro w hG
 unfold sym vec
 go_enter Tryz.func137, Tryz.ntmps137
 go_wp2_with fail
 refine bodyPost_ret (results_cell_row rfl _ _ (w.heap.size + 1) 26 #[m0, m3, m5] (0, 0) _ rfl (blocks2 w _ _ 46 26).2.1 Tryz.underlying26 rfl (by kernel_rfl)) rfl ?_
 exact ⟨rfl, below_alloc (below_alloc (Below.refl _ _) _) _⟩
set_option maxRecDepth 100000 in
set_option maxHeartbeats 4000000 in
theorem sfits_tells (m0 m1 m2 m3 m4 m5 : Int) : Tells 136 #[sym m0 m1 m2 m3 m4 m5] (.bool (fits m0 && (fits m1 && (fits m2 && (fits m3 && (fits m4 && (fits m5))))))) := by
 intro w hG
 unfold sym
 clear hG
 have i0 : ∀ w, (Instr.index 46 (.agg #[m0, m1, m2, m3, m4, m5]) (.int .i64 0)).run Tryz.prog w = .ok (.int .i64 m0) w := fun _ => by kernel_rfl
 have i1 : ∀ w, (Instr.index 46 (.agg #[m0, m1, m2, m3, m4, m5]) (.int .i64 1)).run Tryz.prog w = .ok (.int .i64 m1) w := fun _ => by kernel_rfl
 have i2 : ∀ w, (Instr.index 46 (.agg #[m0, m1, m2, m3, m4, m5]) (.int .i64 2)).run Tryz.prog w = .ok (.int .i64 m2) w := fun _ => by kernel_rfl
 have i3 : ∀ w, (Instr.index 46 (.agg #[m0, m1, m2, m3, m4, m5]) (.int .i64 3)).run Tryz.prog w = .ok (.int .i64 m3) w := fun _ => by kernel_rfl
 have i4 : ∀ w, (Instr.index 46 (.agg #[m0, m1, m2, m3, m4, m5]) (.int .i64 4)).run Tryz.prog w = .ok (.int .i64 m4) w := fun _ => by kernel_rfl
 have i5 : ∀ w, (Instr.index 46 (.agg #[m0, m1, m2, m3, m4, m5]) (.int .i64 5)).run Tryz.prog w = .ok (.int .i64 m5) w := fun _ => by kernel_rfl
 go_enter Tryz.func136, Tryz.ntmps136
 go_upto_region 1 with fail
 have HX := am (blk_new w (.cells #[m0, m1, m2, m3, m4, m5] 46))
 have HB := am (below_alloc (Below.refl w.heap.size w) (.cells #[m0, m1, m2, m3, m4, m5] 46))
 generalize w.alloc (.cells #[m0, m1, m2, m3, m4, m5] 46) = w1 at HX HB ⊢
 obtain ⟨b1, h1⟩ := e_x (w.heap.size)
 rw [← h1] at HX ⊢
 clear h1
 have y10 := b_l HX 0 rfl
 have y11 := b_l HX 1 rfl
 have y12 := b_l HX 2 rfl
 have y13 := b_l HX 3 rfl
 have y14 := b_l HX 4 rfl
 have y15 := b_l HX 5 rfl
 go_wp2_with fail
 clear y10 y11 y12 y13 y14 y15 HX
 go_loopw [6] (fun v6 wr => ∃ k : Int, (0 ≤ k ∧ k ≤ 6) ∧ v6 = .int .i64 k ∧ Aside0 (Below w.heap.size w wr) ∧ Aside0 ((1 ≤ k → fits m0 = true) ∧ (2 ≤ k → fits m1 = true) ∧ (3 ≤ k → fits m2 = true) ∧ (4 ≤ k → fits m3 = true) ∧ (5 ≤ k → fits m4 = true) ∧ (6 ≤ k → fits m5 = true))) (fun v6 _ => 7 - (intOf v6).toNat)
 case atStart => exact ⟨0, by decide, rfl, HB, ⟨by simp⟩⟩
 case round =>
  clear HB
  obtain ⟨k, hk, rfl, HB, HK⟩ := hrel
  have hk4 : k = 0 ∨ k = 1 ∨ k = 2 ∨ k = 3 ∨ k = 4 ∨ k = 5 ∨ k = 6 := by omega
  clear hk
  rcases hk4 with rfl | rfl | rfl | rfl | rfl | rfl | rfl
  ·
   skip
   clear HK
   go_wp2_with fail
   refine (fits_any wr m0).mono ?_
   rintro e w2 ⟨rfl, rfl⟩
   cases hf : fits m0 with
   | true =>
    have HM0 := am hf
    clear hf
    go_wp2_with fail
    go_roundw
    case rel => exact ⟨1, by decide, rfl, HB, ⟨by simp [HM0.out]⟩⟩
    case measure => decide
   | false =>
    have HM0 := am hf
    clear hf
    go_wp2_with fail
    go_ret
    exact ⟨by simp [HM0.out], HB.out⟩
  ·
   skip
   have HM0 := am (HK.out.1 (by decide))
   clear HK
   go_wp2_with fail
   refine (fits_any wr m1).mono ?_
   rintro e w2 ⟨rfl, rfl⟩
   cases hf : fits m1 with
   | true =>
    have HM1 := am hf
    clear hf
    go_wp2_with fail
    go_roundw
    case rel => exact ⟨2, by decide, rfl, HB, ⟨by simp [HM0.out, HM1.out]⟩⟩
    case measure => decide
   | false =>
    have HM1 := am hf
    clear hf
    go_wp2_with fail
    go_ret
    exact ⟨by simp [HM0.out, HM1.out], HB.out⟩
  ·
   skip
   have HM0 := am (HK.out.1 (by decide))
   have HM1 := am (HK.out.2.1 (by decide))
   clear HK
   go_wp2_with fail
   refine (fits_any wr m2).mono ?_
   rintro e w2 ⟨rfl, rfl⟩
   cases hf : fits m2 with
   | true =>
    have HM2 := am hf
    clear hf
    go_wp2_with fail
    go_roundw
    case rel => exact ⟨3, by decide, rfl, HB, ⟨by simp [HM0.out, HM1.out, HM2.out]⟩⟩
    case measure => decide
   | false =>
    have HM2 := am hf
    clear hf
    go_wp2_with fail
    go_ret
    exact ⟨by simp [HM0.out, HM1.out, HM2.out], HB.out⟩
  ·
   skip
   have HM0 := am (HK.out.1 (by decide))
   have HM1 := am (HK.out.2.1 (by decide))
   have HM2 := am (HK.out.2.2.1 (by decide))
   clear HK
   go_wp2_with fail
   refine (fits_any wr m3).mono ?_
   rintro e w2 ⟨rfl, rfl⟩
   cases hf : fits m3 with
   | true =>
    have HM3 := am hf
    clear hf
    go_wp2_with fail
    go_roundw
    case rel => exact ⟨4, by decide, rfl, HB, ⟨by simp [HM0.out, HM1.out, HM2.out, HM3.out]⟩⟩
    case measure => decide
   | false =>
    have HM3 := am hf
    clear hf
    go_wp2_with fail
    go_ret
    exact ⟨by simp [HM0.out, HM1.out, HM2.out, HM3.out], HB.out⟩
  ·
   skip
   have HM0 := am (HK.out.1 (by decide))
   have HM1 := am (HK.out.2.1 (by decide))
   have HM2 := am (HK.out.2.2.1 (by decide))
   have HM3 := am (HK.out.2.2.2.1 (by decide))
   clear HK
   go_wp2_with fail
   refine (fits_any wr m4).mono ?_
   rintro e w2 ⟨rfl, rfl⟩
   cases hf : fits m4 with
   | true =>
    have HM4 := am hf
    clear hf
    go_wp2_with fail
    go_roundw
    case rel => exact ⟨5, by decide, rfl, HB, ⟨by simp [HM0.out, HM1.out, HM2.out, HM3.out, HM4.out]⟩⟩
    case measure => decide
   | false =>
    have HM4 := am hf
    clear hf
    go_wp2_with fail
    go_ret
    exact ⟨by simp [HM0.out, HM1.out, HM2.out, HM3.out, HM4.out], HB.out⟩
  ·
   skip
   have HM0 := am (HK.out.1 (by decide))
   have HM1 := am (HK.out.2.1 (by decide))
   have HM2 := am (HK.out.2.2.1 (by decide))
   have HM3 := am (HK.out.2.2.2.1 (by decide))
   have HM4 := am (HK.out.2.2.2.2.1 (by decide))
   clear HK
   go_wp2_with fail
   refine (fits_any wr m5).mono ?_
   rintro e w2 ⟨rfl, rfl⟩
   cases hf : fits m5 with
   | true =>
    have HM5 := am hf
    clear hf
    go_wp2_with fail
    go_roundw
    case rel => exact ⟨6, by decide, rfl, HB, ⟨by simp [HM0.out, HM1.out, HM2.out, HM3.out, HM4.out, HM5.out]⟩⟩
    case measure => decide
   | false =>
    have HM5 := am hf
    clear hf
    go_wp2_with fail
    go_ret
    exact ⟨by simp [HM0.out, HM1.out, HM2.out, HM3.out, HM4.out, HM5.out], HB.out⟩
  skip
  have HM0 := am (HK.out.1 (by decide))
  have HM1 := am (HK.out.2.1 (by decide))
  have HM2 := am (HK.out.2.2.1 (by decide))
  have HM3 := am (HK.out.2.2.2.1 (by decide))
  have HM4 := am (HK.out.2.2.2.2.1 (by decide))
  have HM5 := am (HK.out.2.2.2.2.2 (by decide))
  clear HK
  go_wp2_with fail
  go_ret
  exact ⟨by simp [HM0.out, HM1.out, HM2.out, HM3.out, HM4.out, HM5.out], HB.out⟩
def SV (m0 m1 m2 m3 m4 m5 s0 s1 s2 s3 s4 s5 k : Int) : Array Value := #[.int .i64 (if 1 ≤ k then s0 else m0), .int .i64 (if 2 ≤ k then s1 else m1), .int .i64 (if 3 ≤ k then s2 else m2), .int .i64 (if 4 ≤ k then s3 else m3), .int .i64 (if 5 ≤ k then s4 else m4), .int .i64 (if 6 ≤ k then s5 else m5)]
set_option maxRecDepth 100000 in
set_option maxHeartbeats 4000000 in
theorem sadd_tells (m0 m1 m2 m3 m4 m5 c0 c1 c2 c3 c4 c5 : Int) : ∃ r0 r1 r2 r3 r4 r5 e, Tells 100 #[sym m0 m1 m2 m3 m4 m5, sym c0 c1 c2 c3 c4 c5] (.tuple #[sym r0 r1 r2 r3 r4 r5, .int .i64 e]) := by
 obtain ⟨s0, hs0⟩ : ∃ s, s = wrap64 (m0 + c0) := ⟨_, rfl⟩
 have HS0 := am hs0.symm
 obtain ⟨s1, hs1⟩ : ∃ s, s = wrap64 (m1 + c1) := ⟨_, rfl⟩
 have HS1 := am hs1.symm
 obtain ⟨s2, hs2⟩ : ∃ s, s = wrap64 (m2 + c2) := ⟨_, rfl⟩
 have HS2 := am hs2.symm
 obtain ⟨s3, hs3⟩ : ∃ s, s = wrap64 (m3 + c3) := ⟨_, rfl⟩
 have HS3 := am hs3.symm
 obtain ⟨s4, hs4⟩ : ∃ s, s = wrap64 (m4 + c4) := ⟨_, rfl⟩
 have HS4 := am hs4.symm
 obtain ⟨s5, hs5⟩ : ∃ s, s = wrap64 (m5 + c5) := ⟨_, rfl⟩
 have HS5 := am hs5.symm
 obtain ⟨km, hm⟩ : ∃ k, Tells 136 #[sym m0 m1 m2 m3 m4 m5] (.bool k) := ⟨_, sfits_tells _ _ _ _ _ _⟩
 obtain ⟨kc, hc⟩ : ∃ k, Tells 136 #[sym c0 c1 c2 c3 c4 c5] (.bool k) := ⟨_, sfits_tells _ _ _ _ _ _⟩
 obtain ⟨ks, hss⟩ : ∃ k, Tells 136 #[sym s0 s1 s2 s3 s4 s5] (.bool k) := ⟨_, sfits_tells _ _ _ _ _ _⟩
 have HFM := am hm
 have HFC := am hc
 have HFS := am hss
 clear hm hc hss hs0 hs1 hs2 hs3 hs4 hs5
 unfold sym at HFS
 cases km with
 | false =>
  refine ⟨0, 0, 0, 0, 0, 0, 1, fun w hG => ?_⟩
  have HG := am hG
  clear hG
  unfold sym at HFM HFC ⊢
  go_enter Tryz.func100, Tryz.ntmps100
  go_upto_region 1 with fail
  obtain ⟨x2, x3, x4, hB⟩ := blocks3 w #[m0, m1, m2, m3, m4, m5] #[c0, c1, c2, c3, c4, c5] #[(), (), (), (), (), ()] 46 46 46
  generalize ((w.alloc (.cells #[m0, m1, m2, m3, m4, m5] 46)).alloc (.cells #[c0, c1, c2, c3, c4, c5] 46)).alloc (.cells #[(), (), (), (), (), ()] 46) = w1 at x2 x3 x4 hB ⊢
  obtain ⟨b2, h2⟩ := e_x (w.heap.size)
  obtain ⟨b3, h3⟩ := e_x (w.heap.size + 1)
  obtain ⟨b4, h4⟩ := e_x (w.heap.size + 1 + 1)
  have g2 : w.heap.size ≤ b2 := by omega
  have g4 : w.heap.size ≤ b4 := by omega
  have n32 : b3 ≠ b2 := by omega
  have n42 : b4 ≠ b2 := by omega
  rw [← h4, ← h3, ← h2]
  rw [← h4] at x4
  rw [← h3] at x3
  rw [← h2] at x2
  have H2 := am x2
  have H3 := am x3
  have H4 := am x4
  have HB := am hB
  clear x2 x3 x4 hB h2 h3 h4
  have y20 := b_v H2 0 (.int .i64 m0) rfl
  have y21 := b_v H2 1 (.int .i64 m1) rfl
  have y22 := b_v H2 2 (.int .i64 m2) rfl
  have y23 := b_v H2 3 (.int .i64 m3) rfl
  have y24 := b_v H2 4 (.int .i64 m4) rfl
  have y25 := b_v H2 5 (.int .i64 m5) rfl
  go_wp2_with fail
  refine (HFM.out w1 (HG.out.below HB.out)).mono ?_
  rintro e w2 ⟨rfl, hb⟩
  clear y20 y21 y22 y23 y24 y25
  replace H2 := b_b H2 hb
  replace H3 := b_b H3 hb
  replace H4 := b_b H4 hb
  replace HB := b_s HB hb
  clear hb
  have y40 := b_v H4 0 (.int .i64 0) rfl
  have f40 := b_z H4 0
  have y41 := b_v H4 1 (.int .i64 0) rfl
  have f41 := b_z H4 1
  have y42 := b_v H4 2 (.int .i64 0) rfl
  have f42 := b_z H4 2
  have y43 := b_v H4 3 (.int .i64 0) rfl
  have f43 := b_z H4 3
  have y44 := b_v H4 4 (.int .i64 0) rfl
  have f44 := b_z H4 4
  have y45 := b_v H4 5 (.int .i64 0) rfl
  have f45 := b_z H4 5
  go_wp2_with fail
  obtain ⟨q, qb⟩ := six_set rfl H4.out g4 HB.out (.int .i64 0) (.int .i64 0) (.int .i64 0) (.int .i64 0) (.int .i64 0) (.int .i64 0)
  exact bodyPost_ret (results_ct rfl _ _ b4 46 _ (0, 0) _ rfl q Tryz.underlying46 rfl (by kernel_rfl)) rfl ⟨rfl, qb⟩
 | true =>
  cases kc with
  | false =>
   refine ⟨0, 0, 0, 0, 0, 0, 1, fun w hG => ?_⟩
   have HG := am hG
   clear hG
   unfold sym at HFM HFC ⊢
   go_enter Tryz.func100, Tryz.ntmps100
   go_upto_region 1 with fail
   obtain ⟨x2, x3, x4, hB⟩ := blocks3 w #[m0, m1, m2, m3, m4, m5] #[c0, c1, c2, c3, c4, c5] #[(), (), (), (), (), ()] 46 46 46
   generalize ((w.alloc (.cells #[m0, m1, m2, m3, m4, m5] 46)).alloc (.cells #[c0, c1, c2, c3, c4, c5] 46)).alloc (.cells #[(), (), (), (), (), ()] 46) = w1 at x2 x3 x4 hB ⊢
   obtain ⟨b2, h2⟩ := e_x (w.heap.size)
   obtain ⟨b3, h3⟩ := e_x (w.heap.size + 1)
   obtain ⟨b4, h4⟩ := e_x (w.heap.size + 1 + 1)
   have g2 : w.heap.size ≤ b2 := by omega
   have g4 : w.heap.size ≤ b4 := by omega
   have n32 : b3 ≠ b2 := by omega
   have n42 : b4 ≠ b2 := by omega
   rw [← h4, ← h3, ← h2]
   rw [← h4] at x4
   rw [← h3] at x3
   rw [← h2] at x2
   have H2 := am x2
   have H3 := am x3
   have H4 := am x4
   have HB := am hB
   clear x2 x3 x4 hB h2 h3 h4
   have y20 := b_v H2 0 (.int .i64 m0) rfl
   have y21 := b_v H2 1 (.int .i64 m1) rfl
   have y22 := b_v H2 2 (.int .i64 m2) rfl
   have y23 := b_v H2 3 (.int .i64 m3) rfl
   have y24 := b_v H2 4 (.int .i64 m4) rfl
   have y25 := b_v H2 5 (.int .i64 m5) rfl
   go_wp2_with fail
   refine (HFM.out w1 (HG.out.below HB.out)).mono ?_
   rintro e w2 ⟨rfl, hb⟩
   clear y20 y21 y22 y23 y24 y25
   replace H2 := b_b H2 hb
   replace H3 := b_b H3 hb
   replace H4 := b_b H4 hb
   replace HB := b_s HB hb
   clear hb
   have y30 := b_v H3 0 (.int .i64 c0) rfl
   have y31 := b_v H3 1 (.int .i64 c1) rfl
   have y32 := b_v H3 2 (.int .i64 c2) rfl
   have y33 := b_v H3 3 (.int .i64 c3) rfl
   have y34 := b_v H3 4 (.int .i64 c4) rfl
   have y35 := b_v H3 5 (.int .i64 c5) rfl
   go_wp2_with fail
   refine (HFC.out w2 (HG.out.below HB.out)).mono ?_
   rintro e w3 ⟨rfl, hb⟩
   clear y30 y31 y32 y33 y34 y35
   replace H2 := b_b H2 hb
   replace H3 := b_b H3 hb
   replace H4 := b_b H4 hb
   replace HB := b_s HB hb
   clear hb
   generalize w3 = w2 at H2 H3 H4 HB ⊢
   have y40 := b_v H4 0 (.int .i64 0) rfl
   have f40 := b_z H4 0
   have y41 := b_v H4 1 (.int .i64 0) rfl
   have f41 := b_z H4 1
   have y42 := b_v H4 2 (.int .i64 0) rfl
   have f42 := b_z H4 2
   have y43 := b_v H4 3 (.int .i64 0) rfl
   have f43 := b_z H4 3
   have y44 := b_v H4 4 (.int .i64 0) rfl
   have f44 := b_z H4 4
   have y45 := b_v H4 5 (.int .i64 0) rfl
   have f45 := b_z H4 5
   go_wp2_with fail
   obtain ⟨q, qb⟩ := six_set rfl H4.out g4 HB.out (.int .i64 0) (.int .i64 0) (.int .i64 0) (.int .i64 0) (.int .i64 0) (.int .i64 0)
   exact bodyPost_ret (results_ct rfl _ _ b4 46 _ (0, 0) _ rfl q Tryz.underlying46 rfl (by kernel_rfl)) rfl ⟨rfl, qb⟩
  | true =>
   cases ks with
   | false =>
    refine ⟨0, 0, 0, 0, 0, 0, 3, fun w hG => ?_⟩
    have HG := am hG
    clear hG
    unfold sym at HFM HFC ⊢
    go_enter Tryz.func100, Tryz.ntmps100
    go_upto_region 1 with fail
    obtain ⟨x2, x3, x4, hB⟩ := blocks3 w #[m0, m1, m2, m3, m4, m5] #[c0, c1, c2, c3, c4, c5] #[(), (), (), (), (), ()] 46 46 46
    generalize ((w.alloc (.cells #[m0, m1, m2, m3, m4, m5] 46)).alloc (.cells #[c0, c1, c2, c3, c4, c5] 46)).alloc (.cells #[(), (), (), (), (), ()] 46) = w1 at x2 x3 x4 hB ⊢
    obtain ⟨b2, h2⟩ := e_x (w.heap.size)
    obtain ⟨b3, h3⟩ := e_x (w.heap.size + 1)
    obtain ⟨b4, h4⟩ := e_x (w.heap.size + 1 + 1)
    have g2 : w.heap.size ≤ b2 := by omega
    have g4 : w.heap.size ≤ b4 := by omega
    have n32 : b3 ≠ b2 := by omega
    have n42 : b4 ≠ b2 := by omega
    rw [← h4, ← h3, ← h2]
    rw [← h4] at x4
    rw [← h3] at x3
    rw [← h2] at x2
    have H2 := am x2
    have H3 := am x3
    have H4 := am x4
    have HB := am hB
    clear x2 x3 x4 hB h2 h3 h4
    have y20 := b_v H2 0 (.int .i64 m0) rfl
    have y21 := b_v H2 1 (.int .i64 m1) rfl
    have y22 := b_v H2 2 (.int .i64 m2) rfl
    have y23 := b_v H2 3 (.int .i64 m3) rfl
    have y24 := b_v H2 4 (.int .i64 m4) rfl
    have y25 := b_v H2 5 (.int .i64 m5) rfl
    go_wp2_with fail
    refine (HFM.out w1 (HG.out.below HB.out)).mono ?_
    rintro e w2 ⟨rfl, hb⟩
    clear y20 y21 y22 y23 y24 y25
    replace H2 := b_b H2 hb
    replace H3 := b_b H3 hb
    replace H4 := b_b H4 hb
    replace HB := b_s HB hb
    clear hb
    have y30 := b_v H3 0 (.int .i64 c0) rfl
    have y31 := b_v H3 1 (.int .i64 c1) rfl
    have y32 := b_v H3 2 (.int .i64 c2) rfl
    have y33 := b_v H3 3 (.int .i64 c3) rfl
    have y34 := b_v H3 4 (.int .i64 c4) rfl
    have y35 := b_v H3 5 (.int .i64 c5) rfl
    go_wp2_with fail
    refine (HFC.out w2 (HG.out.below HB.out)).mono ?_
    rintro e w3 ⟨rfl, hb⟩
    clear y30 y31 y32 y33 y34 y35
    replace H2 := b_b H2 hb
    replace H3 := b_b H3 hb
    replace H4 := b_b H4 hb
    replace HB := b_s HB hb
    clear hb
    generalize w3 = w2 at H2 H3 H4 HB ⊢
    go_wp2_with fail
    go_loopw [16] (fun v16 wr => ∃ k : Int, (0 ≤ k ∧ k ≤ 6) ∧ v16 = .int .i64 k ∧ Aside0 (wr.heap[b2]? = some (.cells (SV m0 m1 m2 m3 m4 m5 s0 s1 s2 s3 s4 s5 k) 46 (0, 0))) ∧ Aside0 (wr.heap[b3]? = some (.cells #[c0, c1, c2, c3, c4, c5] 46 (0, 0))) ∧ Aside0 (wr.heap[b4]? = some (.cells #[(), (), (), (), (), ()] 46 (0, 0))) ∧ Aside0 (Below w.heap.size w wr)) (fun v16 _ => 7 - (intOf v16).toNat)
    case atStart => exact ⟨0, by decide, rfl, ⟨H2.out⟩, H3, H4, HB⟩
    case round =>
     clear H2 H3 H4 HB
     obtain ⟨k, hk, rfl, H2, H3, H4, HB⟩ := hrel
     have hk4 : k = 0 ∨ k = 1 ∨ k = 2 ∨ k = 3 ∨ k = 4 ∨ k = 5 ∨ k = 6 := by omega
     clear hk
     rcases hk4 with rfl | rfl | rfl | rfl | rfl | rfl | rfl
     ·
      have y2 := b_v H2 0 (.int .i64 m0) rfl
      have y3 := b_v H3 0 (.int .i64 c0) rfl
      have f2 := b_z H2 0
      go_upto_region 6 with fail
      go_region
      rw [HS0.out]
      have q := (blk_set H2.out 0 (.int .i64 s0)).trans (show _ = some (Obj.cells (SV m0 m1 m2 m3 m4 m5 s0 s1 s2 s3 s4 s5 1) 46 (0, 0)) by kernel_rfl)
      have q3 := blk_far H3.out (p := ⟨b2, 0, none⟩) n32 (.int .i64 s0)
      have q4 := blk_far H4.out (p := ⟨b2, 0, none⟩) n42 (.int .i64 s0)
      have qb := HB.out.setCell (p := ⟨b2, 0, none⟩) g2 (.int .i64 s0)
      go_wp2_with fail
      go_roundw
      case rel => exact ⟨1, by decide, rfl, ⟨q⟩, ⟨q3⟩, ⟨q4⟩, ⟨below_drew qb⟩⟩
      case measure => decide
     ·
      have y2 := b_v H2 1 (.int .i64 m1) rfl
      have y3 := b_v H3 1 (.int .i64 c1) rfl
      have f2 := b_z H2 1
      go_upto_region 6 with fail
      go_region
      rw [HS1.out]
      have q := (blk_set H2.out 1 (.int .i64 s1)).trans (show _ = some (Obj.cells (SV m0 m1 m2 m3 m4 m5 s0 s1 s2 s3 s4 s5 2) 46 (0, 0)) by kernel_rfl)
      have q3 := blk_far H3.out (p := ⟨b2, 1, none⟩) n32 (.int .i64 s1)
      have q4 := blk_far H4.out (p := ⟨b2, 1, none⟩) n42 (.int .i64 s1)
      have qb := HB.out.setCell (p := ⟨b2, 1, none⟩) g2 (.int .i64 s1)
      go_wp2_with fail
      go_roundw
      case rel => exact ⟨2, by decide, rfl, ⟨q⟩, ⟨q3⟩, ⟨q4⟩, ⟨below_drew qb⟩⟩
      case measure => decide
     ·
      have y2 := b_v H2 2 (.int .i64 m2) rfl
      have y3 := b_v H3 2 (.int .i64 c2) rfl
      have f2 := b_z H2 2
      go_upto_region 6 with fail
      go_region
      rw [HS2.out]
      have q := (blk_set H2.out 2 (.int .i64 s2)).trans (show _ = some (Obj.cells (SV m0 m1 m2 m3 m4 m5 s0 s1 s2 s3 s4 s5 3) 46 (0, 0)) by kernel_rfl)
      have q3 := blk_far H3.out (p := ⟨b2, 2, none⟩) n32 (.int .i64 s2)
      have q4 := blk_far H4.out (p := ⟨b2, 2, none⟩) n42 (.int .i64 s2)
      have qb := HB.out.setCell (p := ⟨b2, 2, none⟩) g2 (.int .i64 s2)
      go_wp2_with fail
      go_roundw
      case rel => exact ⟨3, by decide, rfl, ⟨q⟩, ⟨q3⟩, ⟨q4⟩, ⟨below_drew qb⟩⟩
      case measure => decide
     ·
      have y2 := b_v H2 3 (.int .i64 m3) rfl
      have y3 := b_v H3 3 (.int .i64 c3) rfl
      have f2 := b_z H2 3
      go_upto_region 6 with fail
      go_region
      rw [HS3.out]
      have q := (blk_set H2.out 3 (.int .i64 s3)).trans (show _ = some (Obj.cells (SV m0 m1 m2 m3 m4 m5 s0 s1 s2 s3 s4 s5 4) 46 (0, 0)) by kernel_rfl)
      have q3 := blk_far H3.out (p := ⟨b2, 3, none⟩) n32 (.int .i64 s3)
      have q4 := blk_far H4.out (p := ⟨b2, 3, none⟩) n42 (.int .i64 s3)
      have qb := HB.out.setCell (p := ⟨b2, 3, none⟩) g2 (.int .i64 s3)
      go_wp2_with fail
      go_roundw
      case rel => exact ⟨4, by decide, rfl, ⟨q⟩, ⟨q3⟩, ⟨q4⟩, ⟨below_drew qb⟩⟩
      case measure => decide
     ·
      have y2 := b_v H2 4 (.int .i64 m4) rfl
      have y3 := b_v H3 4 (.int .i64 c4) rfl
      have f2 := b_z H2 4
      go_upto_region 6 with fail
      go_region
      rw [HS4.out]
      have q := (blk_set H2.out 4 (.int .i64 s4)).trans (show _ = some (Obj.cells (SV m0 m1 m2 m3 m4 m5 s0 s1 s2 s3 s4 s5 5) 46 (0, 0)) by kernel_rfl)
      have q3 := blk_far H3.out (p := ⟨b2, 4, none⟩) n32 (.int .i64 s4)
      have q4 := blk_far H4.out (p := ⟨b2, 4, none⟩) n42 (.int .i64 s4)
      have qb := HB.out.setCell (p := ⟨b2, 4, none⟩) g2 (.int .i64 s4)
      go_wp2_with fail
      go_roundw
      case rel => exact ⟨5, by decide, rfl, ⟨q⟩, ⟨q3⟩, ⟨q4⟩, ⟨below_drew qb⟩⟩
      case measure => decide
     ·
      have y2 := b_v H2 5 (.int .i64 m5) rfl
      have y3 := b_v H3 5 (.int .i64 c5) rfl
      have f2 := b_z H2 5
      go_upto_region 6 with fail
      go_region
      rw [HS5.out]
      have q := (blk_set H2.out 5 (.int .i64 s5)).trans (show _ = some (Obj.cells (SV m0 m1 m2 m3 m4 m5 s0 s1 s2 s3 s4 s5 6) 46 (0, 0)) by kernel_rfl)
      have q3 := blk_far H3.out (p := ⟨b2, 5, none⟩) n32 (.int .i64 s5)
      have q4 := blk_far H4.out (p := ⟨b2, 5, none⟩) n42 (.int .i64 s5)
      have qb := HB.out.setCell (p := ⟨b2, 5, none⟩) g2 (.int .i64 s5)
      go_wp2_with fail
      go_roundw
      case rel => exact ⟨6, by decide, rfl, ⟨q⟩, ⟨q3⟩, ⟨q4⟩, ⟨below_drew qb⟩⟩
      case measure => decide
     skip
     have y20 := b_v H2 0 (.int .i64 s0) rfl
     have y21 := b_v H2 1 (.int .i64 s1) rfl
     have y22 := b_v H2 2 (.int .i64 s2) rfl
     have y23 := b_v H2 3 (.int .i64 s3) rfl
     have y24 := b_v H2 4 (.int .i64 s4) rfl
     have y25 := b_v H2 5 (.int .i64 s5) rfl
     go_wp2_with fail
     refine (HFS.out wr (HG.out.below HB.out)).mono ?_
     rintro e w2 ⟨rfl, hb⟩
     clear y20 y21 y22 y23 y24 y25
     replace H2 := b_b H2 hb
     replace H3 := b_b H3 hb
     replace H4 := b_b H4 hb
     replace HB := b_s HB hb
     clear hb
     have y40 := b_v H4 0 (.int .i64 0) rfl
     have f40 := b_z H4 0
     have y41 := b_v H4 1 (.int .i64 0) rfl
     have f41 := b_z H4 1
     have y42 := b_v H4 2 (.int .i64 0) rfl
     have f42 := b_z H4 2
     have y43 := b_v H4 3 (.int .i64 0) rfl
     have f43 := b_z H4 3
     have y44 := b_v H4 4 (.int .i64 0) rfl
     have f44 := b_z H4 4
     have y45 := b_v H4 5 (.int .i64 0) rfl
     have f45 := b_z H4 5
     go_wp2_with fail
     obtain ⟨q, qb⟩ := six_set rfl H4.out g4 HB.out (.int .i64 0) (.int .i64 0) (.int .i64 0) (.int .i64 0) (.int .i64 0) (.int .i64 0)
     exact bodyPost_ret (results_ct rfl _ _ b4 46 _ (0, 0) _ rfl q Tryz.underlying46 rfl (by kernel_rfl)) rfl ⟨rfl, qb⟩
   | true =>
    refine ⟨s0, s1, s2, s3, s4, s5, 0, fun w hG => ?_⟩
    have HG := am hG
    clear hG
    unfold sym at HFM HFC ⊢
    go_enter Tryz.func100, Tryz.ntmps100
    go_upto_region 1 with fail
    obtain ⟨x2, x3, x4, hB⟩ := blocks3 w #[m0, m1, m2, m3, m4, m5] #[c0, c1, c2, c3, c4, c5] #[(), (), (), (), (), ()] 46 46 46
    generalize ((w.alloc (.cells #[m0, m1, m2, m3, m4, m5] 46)).alloc (.cells #[c0, c1, c2, c3, c4, c5] 46)).alloc (.cells #[(), (), (), (), (), ()] 46) = w1 at x2 x3 x4 hB ⊢
    obtain ⟨b2, h2⟩ := e_x (w.heap.size)
    obtain ⟨b3, h3⟩ := e_x (w.heap.size + 1)
    obtain ⟨b4, h4⟩ := e_x (w.heap.size + 1 + 1)
    have g2 : w.heap.size ≤ b2 := by omega
    have g4 : w.heap.size ≤ b4 := by omega
    have n32 : b3 ≠ b2 := by omega
    have n42 : b4 ≠ b2 := by omega
    rw [← h4, ← h3, ← h2]
    rw [← h4] at x4
    rw [← h3] at x3
    rw [← h2] at x2
    have H2 := am x2
    have H3 := am x3
    have H4 := am x4
    have HB := am hB
    clear x2 x3 x4 hB h2 h3 h4
    have y20 := b_v H2 0 (.int .i64 m0) rfl
    have y21 := b_v H2 1 (.int .i64 m1) rfl
    have y22 := b_v H2 2 (.int .i64 m2) rfl
    have y23 := b_v H2 3 (.int .i64 m3) rfl
    have y24 := b_v H2 4 (.int .i64 m4) rfl
    have y25 := b_v H2 5 (.int .i64 m5) rfl
    go_wp2_with fail
    refine (HFM.out w1 (HG.out.below HB.out)).mono ?_
    rintro e w2 ⟨rfl, hb⟩
    clear y20 y21 y22 y23 y24 y25
    replace H2 := b_b H2 hb
    replace H3 := b_b H3 hb
    replace H4 := b_b H4 hb
    replace HB := b_s HB hb
    clear hb
    have y30 := b_v H3 0 (.int .i64 c0) rfl
    have y31 := b_v H3 1 (.int .i64 c1) rfl
    have y32 := b_v H3 2 (.int .i64 c2) rfl
    have y33 := b_v H3 3 (.int .i64 c3) rfl
    have y34 := b_v H3 4 (.int .i64 c4) rfl
    have y35 := b_v H3 5 (.int .i64 c5) rfl
    go_wp2_with fail
    refine (HFC.out w2 (HG.out.below HB.out)).mono ?_
    rintro e w3 ⟨rfl, hb⟩
    clear y30 y31 y32 y33 y34 y35
    replace H2 := b_b H2 hb
    replace H3 := b_b H3 hb
    replace H4 := b_b H4 hb
    replace HB := b_s HB hb
    clear hb
    generalize w3 = w2 at H2 H3 H4 HB ⊢
    go_wp2_with fail
    go_loopw [16] (fun v16 wr => ∃ k : Int, (0 ≤ k ∧ k ≤ 6) ∧ v16 = .int .i64 k ∧ Aside0 (wr.heap[b2]? = some (.cells (SV m0 m1 m2 m3 m4 m5 s0 s1 s2 s3 s4 s5 k) 46 (0, 0))) ∧ Aside0 (wr.heap[b3]? = some (.cells #[c0, c1, c2, c3, c4, c5] 46 (0, 0))) ∧ Aside0 (wr.heap[b4]? = some (.cells #[(), (), (), (), (), ()] 46 (0, 0))) ∧ Aside0 (Below w.heap.size w wr)) (fun v16 _ => 7 - (intOf v16).toNat)
    case atStart => exact ⟨0, by decide, rfl, ⟨H2.out⟩, H3, H4, HB⟩
    case round =>
     clear H2 H3 H4 HB
     obtain ⟨k, hk, rfl, H2, H3, H4, HB⟩ := hrel
     have hk4 : k = 0 ∨ k = 1 ∨ k = 2 ∨ k = 3 ∨ k = 4 ∨ k = 5 ∨ k = 6 := by omega
     clear hk
     rcases hk4 with rfl | rfl | rfl | rfl | rfl | rfl | rfl
     ·
      have y2 := b_v H2 0 (.int .i64 m0) rfl
      have y3 := b_v H3 0 (.int .i64 c0) rfl
      have f2 := b_z H2 0
      go_upto_region 6 with fail
      go_region
      rw [HS0.out]
      have q := (blk_set H2.out 0 (.int .i64 s0)).trans (show _ = some (Obj.cells (SV m0 m1 m2 m3 m4 m5 s0 s1 s2 s3 s4 s5 1) 46 (0, 0)) by kernel_rfl)
      have q3 := blk_far H3.out (p := ⟨b2, 0, none⟩) n32 (.int .i64 s0)
      have q4 := blk_far H4.out (p := ⟨b2, 0, none⟩) n42 (.int .i64 s0)
      have qb := HB.out.setCell (p := ⟨b2, 0, none⟩) g2 (.int .i64 s0)
      go_wp2_with fail
      go_roundw
      case rel => exact ⟨1, by decide, rfl, ⟨q⟩, ⟨q3⟩, ⟨q4⟩, ⟨below_drew qb⟩⟩
      case measure => decide
     ·
      have y2 := b_v H2 1 (.int .i64 m1) rfl
      have y3 := b_v H3 1 (.int .i64 c1) rfl
      have f2 := b_z H2 1
      go_upto_region 6 with fail
      go_region
      rw [HS1.out]
      have q := (blk_set H2.out 1 (.int .i64 s1)).trans (show _ = some (Obj.cells (SV m0 m1 m2 m3 m4 m5 s0 s1 s2 s3 s4 s5 2) 46 (0, 0)) by kernel_rfl)
      have q3 := blk_far H3.out (p := ⟨b2, 1, none⟩) n32 (.int .i64 s1)
      have q4 := blk_far H4.out (p := ⟨b2, 1, none⟩) n42 (.int .i64 s1)
      have qb := HB.out.setCell (p := ⟨b2, 1, none⟩) g2 (.int .i64 s1)
      go_wp2_with fail
      go_roundw
      case rel => exact ⟨2, by decide, rfl, ⟨q⟩, ⟨q3⟩, ⟨q4⟩, ⟨below_drew qb⟩⟩
      case measure => decide
     ·
      have y2 := b_v H2 2 (.int .i64 m2) rfl
      have y3 := b_v H3 2 (.int .i64 c2) rfl
      have f2 := b_z H2 2
      go_upto_region 6 with fail
      go_region
      rw [HS2.out]
      have q := (blk_set H2.out 2 (.int .i64 s2)).trans (show _ = some (Obj.cells (SV m0 m1 m2 m3 m4 m5 s0 s1 s2 s3 s4 s5 3) 46 (0, 0)) by kernel_rfl)
      have q3 := blk_far H3.out (p := ⟨b2, 2, none⟩) n32 (.int .i64 s2)
      have q4 := blk_far H4.out (p := ⟨b2, 2, none⟩) n42 (.int .i64 s2)
      have qb := HB.out.setCell (p := ⟨b2, 2, none⟩) g2 (.int .i64 s2)
      go_wp2_with fail
      go_roundw
      case rel => exact ⟨3, by decide, rfl, ⟨q⟩, ⟨q3⟩, ⟨q4⟩, ⟨below_drew qb⟩⟩
      case measure => decide
     ·
      have y2 := b_v H2 3 (.int .i64 m3) rfl
      have y3 := b_v H3 3 (.int .i64 c3) rfl
      have f2 := b_z H2 3
      go_upto_region 6 with fail
      go_region
      rw [HS3.out]
      have q := (blk_set H2.out 3 (.int .i64 s3)).trans (show _ = some (Obj.cells (SV m0 m1 m2 m3 m4 m5 s0 s1 s2 s3 s4 s5 4) 46 (0, 0)) by kernel_rfl)
      have q3 := blk_far H3.out (p := ⟨b2, 3, none⟩) n32 (.int .i64 s3)
      have q4 := blk_far H4.out (p := ⟨b2, 3, none⟩) n42 (.int .i64 s3)
      have qb := HB.out.setCell (p := ⟨b2, 3, none⟩) g2 (.int .i64 s3)
      go_wp2_with fail
      go_roundw
      case rel => exact ⟨4, by decide, rfl, ⟨q⟩, ⟨q3⟩, ⟨q4⟩, ⟨below_drew qb⟩⟩
      case measure => decide
     ·
      have y2 := b_v H2 4 (.int .i64 m4) rfl
      have y3 := b_v H3 4 (.int .i64 c4) rfl
      have f2 := b_z H2 4
      go_upto_region 6 with fail
      go_region
      rw [HS4.out]
      have q := (blk_set H2.out 4 (.int .i64 s4)).trans (show _ = some (Obj.cells (SV m0 m1 m2 m3 m4 m5 s0 s1 s2 s3 s4 s5 5) 46 (0, 0)) by kernel_rfl)
      have q3 := blk_far H3.out (p := ⟨b2, 4, none⟩) n32 (.int .i64 s4)
      have q4 := blk_far H4.out (p := ⟨b2, 4, none⟩) n42 (.int .i64 s4)
      have qb := HB.out.setCell (p := ⟨b2, 4, none⟩) g2 (.int .i64 s4)
      go_wp2_with fail
      go_roundw
      case rel => exact ⟨5, by decide, rfl, ⟨q⟩, ⟨q3⟩, ⟨q4⟩, ⟨below_drew qb⟩⟩
      case measure => decide
     ·
      have y2 := b_v H2 5 (.int .i64 m5) rfl
      have y3 := b_v H3 5 (.int .i64 c5) rfl
      have f2 := b_z H2 5
      go_upto_region 6 with fail
      go_region
      rw [HS5.out]
      have q := (blk_set H2.out 5 (.int .i64 s5)).trans (show _ = some (Obj.cells (SV m0 m1 m2 m3 m4 m5 s0 s1 s2 s3 s4 s5 6) 46 (0, 0)) by kernel_rfl)
      have q3 := blk_far H3.out (p := ⟨b2, 5, none⟩) n32 (.int .i64 s5)
      have q4 := blk_far H4.out (p := ⟨b2, 5, none⟩) n42 (.int .i64 s5)
      have qb := HB.out.setCell (p := ⟨b2, 5, none⟩) g2 (.int .i64 s5)
      go_wp2_with fail
      go_roundw
      case rel => exact ⟨6, by decide, rfl, ⟨q⟩, ⟨q3⟩, ⟨q4⟩, ⟨below_drew qb⟩⟩
      case measure => decide
     skip
     have y20 := b_v H2 0 (.int .i64 s0) rfl
     have y21 := b_v H2 1 (.int .i64 s1) rfl
     have y22 := b_v H2 2 (.int .i64 s2) rfl
     have y23 := b_v H2 3 (.int .i64 s3) rfl
     have y24 := b_v H2 4 (.int .i64 s4) rfl
     have y25 := b_v H2 5 (.int .i64 s5) rfl
     go_wp2_with fail
     refine (HFS.out wr (HG.out.below HB.out)).mono ?_
     rintro e w2 ⟨rfl, hb⟩
     clear y20 y21 y22 y23 y24 y25
     replace H2 := b_b H2 hb
     replace H3 := b_b H3 hb
     replace H4 := b_b H4 hb
     replace HB := b_s HB hb
     clear hb
     have y20 := b_v H2 0 (.int .i64 s0) rfl
     have y21 := b_v H2 1 (.int .i64 s1) rfl
     have y22 := b_v H2 2 (.int .i64 s2) rfl
     have y23 := b_v H2 3 (.int .i64 s3) rfl
     have y24 := b_v H2 4 (.int .i64 s4) rfl
     have y25 := b_v H2 5 (.int .i64 s5) rfl
     have y40 := b_v H4 0 (.int .i64 0) rfl
     have f40 := b_z H4 0
     have y41 := b_v H4 1 (.int .i64 0) rfl
     have f41 := b_z H4 1
     have y42 := b_v H4 2 (.int .i64 0) rfl
     have f42 := b_z H4 2
     have y43 := b_v H4 3 (.int .i64 0) rfl
     have f43 := b_z H4 3
     have y44 := b_v H4 4 (.int .i64 0) rfl
     have f44 := b_z H4 4
     have y45 := b_v H4 5 (.int .i64 0) rfl
     have f45 := b_z H4 5
     go_wp2_with fail
     obtain ⟨q, qb⟩ := six_set rfl H4.out g4 HB.out (.int .i64 s0) (.int .i64 s1) (.int .i64 s2) (.int .i64 s3) (.int .i64 s4) (.int .i64 s5)
     exact bodyPost_ret (results_ct rfl _ _ b4 46 _ (0, 0) _ rfl q Tryz.underlying46 rfl (by kernel_rfl)) rfl ⟨rfl, qb⟩
end Go.Proofs.YtpdahkgandaabaaGreatDoor.Ch
