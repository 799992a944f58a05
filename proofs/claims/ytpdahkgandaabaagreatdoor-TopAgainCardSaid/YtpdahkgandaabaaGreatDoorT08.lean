/- A part of the proof of TopAgain, where the package's tables hold what their initialisers lay. -/
import Derived.Test.YtpdahkgandaabaaGreatDoorT01
import Derived.Test.YtpdahkgandaabaaGreatDoorT07
namespace Go.Proofs.YtpdahkgandaabaaGreatDoor.Ch
open Go.RowKit Go.Proofs.YtpdahkgandaabaaGreatDoorW.PrintWords Go.Proofs.YtpdahkgandaabaaGreatDoorW.PrintLast Go.Proofs.YtpdahkgandaabaaGreatDoorW.PrintMore Go.Proofs.YtpdahkgandaabaaGreatDoor.PTopNames Go.Proofs.YtpdahkgandaabaaGreatDoor.Al
set_option linter.unusedVariables false
set_option linter.unusedSimpArgs false
def PV (a0 b0 a1 b1 a2 b2 k : Int) : Array Value := if k = 0 then #[a0, .int .u64 b0] else if k = 1 then #[a1, .int .u64 b1] else #[a2, .int .u64 b2]
set_option maxRecDepth 100000 in
set_option maxHeartbeats 4000000 in
theorem part1_tells (n h0 l0 : Int) (h0' : 0 ≤ n) (h1' : n ≤ 127) (u0 : U l0) : ∃ x, ∀ b, TellsP (fun w => w.heap[b]? = some (.cells #[h0, .int .u64 l0] 124 (0, 0))) 97 #[n, .slice (some ⟨b, 0, none⟩) 1 1] (.int .i64 x) := by
 obtain ⟨a0, d0, e0, v0, ha0⟩ := wadd_tells 0 0 h0 l0 ⟨by decide, by decide⟩ u0
 have HA0 := am ha0
 obtain ⟨hh, hl, hu, hhalf⟩ := half_tells a0 d0 n v0 h0' h1'
 obtain ⟨x, ex, hint⟩ := int_tells hh hl
 have HH := am hhalf
 have HI := am hint
 clear hhalf hint ha0 v0 u0 h0' h1' hu
 unfold wide at HA0 HH HI
 unfold Ch.two at HI
 refine ⟨x, fun b w hG hp => ?_⟩
 have HG := am hG
 have HP := am hp
 clear hG hp
 go_enter Tryz.func97, Tryz.ntmps97
 go_wp2_with fail
 refine (wide_Of.calls 0 0 0 w rfl).mono ?_
 rintro e w1 ⟨rfl, hb⟩
 go_upto_region 2 with fail
 have H5 := am (show (w1.alloc (.cells #[(), .int .u64 0] 124)).heap[w1.heap.size]? = some (.cells (PV 0 0 a0 d0 a0 d0 0) 124 (0, 0)) from blk_new w1 (.cells #[(), .int .u64 0] 124))
 have HX := am (blk_alloc (blk_below HP.out hb) (.cells #[(), .int .u64 0] 124))
 have g5 := hb.size
 have HB := am (below_alloc hb (.cells #[(), .int .u64 0] 124))
 have nb : b ≠ w1.heap.size := Nat.ne_of_lt (Nat.lt_of_lt_of_le (blk_lt HP.out) hb.size)
 clear hb
 generalize w1.alloc (.cells #[(), .int .u64 0] 124) = w2 at H5 HX HB ⊢
 generalize w1.heap.size = b5 at H5 g5 nb ⊢
 go_wp2_with fail
 go_loopw [13] (fun v13 wr => ∃ k : Int, (0 ≤ k ∧ k ≤ 1) ∧ v13 = .int .i64 k ∧ Aside0 (wr.heap[b5]? = some (.cells (PV 0 0 a0 d0 a0 d0 k) 124 (0, 0))) ∧ Aside0 (wr.heap[b]? = some (.cells #[h0, .int .u64 l0] 124 (0, 0))) ∧ Aside0 (Below w.heap.size w wr)) (fun v13 _ => 2 - (intOf v13).toNat)
 case atStart => exact ⟨0, by decide, rfl, H5, HX, HB⟩
 case round =>
  clear H5 HX HB
  obtain ⟨k, hk, rfl, H5, HX, HB⟩ := hrel
  have hk4 : k = 0 ∨ k = 1 := by omega
  clear hk
  rcases hk4 with rfl | rfl
  ·
   have x0 := b_v HX 0 (.int .i64 h0) rfl
   have x1 := b_v HX 1 (.int .u64 l0) rfl
   go_upto_region 5 with fail
   have HY := am (blk_new wr (.cells #[h0, .int .u64 l0] 124))
   replace H5 := am (blk_alloc H5.out (.cells #[h0, .int .u64 l0] 124))
   replace HX := am (blk_alloc HX.out (.cells #[h0, .int .u64 l0] 124))
   replace HB := am (below_alloc HB.out (.cells #[h0, .int .u64 l0] 124))
   clear x0 x1
   generalize wr.alloc (.cells #[h0, .int .u64 l0] 124) = w3 at HY H5 HX HB ⊢
   generalize wr.heap.size = b7 at HY ⊢
   have y0 := b_v H5 0 (.int .i64 0) rfl
   have y1 := b_v H5 1 (.int .u64 0) rfl
   have z0 := b_v HY 0 (.int .i64 h0) rfl
   have z1 := b_v HY 1 (.int .u64 l0) rfl
   go_wp2_with fail
   refine (HA0.out w3 (HG.out.below HB.out)).mono ?_
   rintro e w4 ⟨rfl, hb⟩
   replace H5 := b_b H5 hb
   replace HX := b_b HX hb
   replace HB := b_s HB hb
   clear hb y0 y1 z0 z1 HY
   have y0 := b_v H5 0 (.int .i64 0) rfl
   have y1 := b_v H5 1 (.int .u64 0) rfl
   have f0 := b_z H5 0
   have f1 := b_z H5 1
   go_wp2_with fail
   obtain ⟨q, qb⟩ := two_set rfl H5.out g5 HB.out (.int .i64 a0) (.int .u64 d0)
   have qx := blk_far (blk_far HX.out (p := ⟨b5, 0, none⟩) nb (.int .i64 a0)) (p := ⟨b5, 1, none⟩) nb (.int .u64 d0)
   go_roundw
   case rel => exact ⟨1, by decide, rfl, ⟨q⟩, ⟨qx⟩, ⟨qb⟩⟩
   case measure => decide
  have y0 := b_v H5 0 (.int .i64 a0) rfl
  have y1 := b_v H5 1 (.int .u64 d0) rfl
  go_wp2_with fail
  refine (HH.out wr (HG.out.below HB.out)).mono ?_
  rintro e w4 ⟨rfl, hb⟩
  replace H5 := b_b H5 hb
  replace HB := b_s HB hb
  clear hb y0 y1
  have y0 := b_v H5 0 (.int .i64 a0) rfl
  have y1 := b_v H5 1 (.int .u64 d0) rfl
  have f0 := b_z H5 0
  have f1 := b_z H5 1
  go_upto_region 8 with fail
  obtain ⟨q, qb⟩ := two_set rfl H5.out g5 HB.out (.int .i64 hh) (.int .u64 hl)
  clear y0 y1 f0 f1
  generalize (w4.setCell ⟨b5, 0, none⟩ (.int .i64 hh)).setCell ⟨b5, 1, none⟩ (.int .u64 hl) = w5 at q qb ⊢
  have y0 := bcv q 0 (.int .i64 hh) rfl
  have y1 := bcv q 1 (.int .u64 hl) rfl
  have QB := am qb
  clear q qb
  go_wp2_with fail
  refine (HI.out w5 (HG.out.below QB.out)).mono ?_
  rintro e w6 ⟨rfl, hb⟩
  go_wp2_with fail
  go_ret
  exact ⟨rfl, below_step QB.out hb⟩
set_option maxRecDepth 100000 in
set_option maxHeartbeats 4000000 in
theorem part2_tells (n h0 l0 h1 l1 : Int) (h0' : 0 ≤ n) (h1' : n ≤ 127) (u0 : U l0) (u1 : U l1) : ∃ x, ∀ b, TellsP (fun w => w.heap[b]? = some (.cells #[h0, .int .u64 l0, h1, .int .u64 l1] 124 (0, 0))) 97 #[n, .slice (some ⟨b, 0, none⟩) 2 2] (.int .i64 x) := by
 obtain ⟨a0, d0, e0, v0, ha0⟩ := wadd_tells 0 0 h0 l0 ⟨by decide, by decide⟩ u0
 have HA0 := am ha0
 obtain ⟨a1, d1, e1, v1, ha1⟩ := wadd_tells a0 d0 h1 l1 v0 u1
 have HA1 := am ha1
 obtain ⟨hh, hl, hu, hhalf⟩ := half_tells a1 d1 n v1 h0' h1'
 obtain ⟨x, ex, hint⟩ := int_tells hh hl
 have HH := am hhalf
 have HI := am hint
 clear hhalf hint ha0 ha1 v0 v1 u0 u1 h0' h1' hu
 unfold wide at HA0 HA1 HH HI
 unfold Ch.two at HI
 refine ⟨x, fun b w hG hp => ?_⟩
 have HG := am hG
 have HP := am hp
 clear hG hp
 go_enter Tryz.func97, Tryz.ntmps97
 go_wp2_with fail
 refine (wide_Of.calls 0 0 0 w rfl).mono ?_
 rintro e w1 ⟨rfl, hb⟩
 go_upto_region 2 with fail
 have H5 := am (show (w1.alloc (.cells #[(), .int .u64 0] 124)).heap[w1.heap.size]? = some (.cells (PV 0 0 a0 d0 a1 d1 0) 124 (0, 0)) from blk_new w1 (.cells #[(), .int .u64 0] 124))
 have HX := am (blk_alloc (blk_below HP.out hb) (.cells #[(), .int .u64 0] 124))
 have g5 := hb.size
 have HB := am (below_alloc hb (.cells #[(), .int .u64 0] 124))
 have nb : b ≠ w1.heap.size := Nat.ne_of_lt (Nat.lt_of_lt_of_le (blk_lt HP.out) hb.size)
 clear hb
 generalize w1.alloc (.cells #[(), .int .u64 0] 124) = w2 at H5 HX HB ⊢
 generalize w1.heap.size = b5 at H5 g5 nb ⊢
 go_wp2_with fail
 go_loopw [13] (fun v13 wr => ∃ k : Int, (0 ≤ k ∧ k ≤ 2) ∧ v13 = .int .i64 k ∧ Aside0 (wr.heap[b5]? = some (.cells (PV 0 0 a0 d0 a1 d1 k) 124 (0, 0))) ∧ Aside0 (wr.heap[b]? = some (.cells #[h0, .int .u64 l0, h1, .int .u64 l1] 124 (0, 0))) ∧ Aside0 (Below w.heap.size w wr)) (fun v13 _ => 3 - (intOf v13).toNat)
 case atStart => exact ⟨0, by decide, rfl, H5, HX, HB⟩
 case round =>
  clear H5 HX HB
  obtain ⟨k, hk, rfl, H5, HX, HB⟩ := hrel
  have hk4 : k = 0 ∨ k = 1 ∨ k = 2 := by omega
  clear hk
  rcases hk4 with rfl | rfl | rfl
  ·
   have x0 := b_v HX 0 (.int .i64 h0) rfl
   have x1 := b_v HX 1 (.int .u64 l0) rfl
   go_upto_region 5 with fail
   have HY := am (blk_new wr (.cells #[h0, .int .u64 l0] 124))
   replace H5 := am (blk_alloc H5.out (.cells #[h0, .int .u64 l0] 124))
   replace HX := am (blk_alloc HX.out (.cells #[h0, .int .u64 l0] 124))
   replace HB := am (below_alloc HB.out (.cells #[h0, .int .u64 l0] 124))
   clear x0 x1
   generalize wr.alloc (.cells #[h0, .int .u64 l0] 124) = w3 at HY H5 HX HB ⊢
   generalize wr.heap.size = b7 at HY ⊢
   have y0 := b_v H5 0 (.int .i64 0) rfl
   have y1 := b_v H5 1 (.int .u64 0) rfl
   have z0 := b_v HY 0 (.int .i64 h0) rfl
   have z1 := b_v HY 1 (.int .u64 l0) rfl
   go_wp2_with fail
   refine (HA0.out w3 (HG.out.below HB.out)).mono ?_
   rintro e w4 ⟨rfl, hb⟩
   replace H5 := b_b H5 hb
   replace HX := b_b HX hb
   replace HB := b_s HB hb
   clear hb y0 y1 z0 z1 HY
   have y0 := b_v H5 0 (.int .i64 0) rfl
   have y1 := b_v H5 1 (.int .u64 0) rfl
   have f0 := b_z H5 0
   have f1 := b_z H5 1
   go_wp2_with fail
   obtain ⟨q, qb⟩ := two_set rfl H5.out g5 HB.out (.int .i64 a0) (.int .u64 d0)
   have qx := blk_far (blk_far HX.out (p := ⟨b5, 0, none⟩) nb (.int .i64 a0)) (p := ⟨b5, 1, none⟩) nb (.int .u64 d0)
   go_roundw
   case rel => exact ⟨1, by decide, rfl, ⟨q⟩, ⟨qx⟩, ⟨qb⟩⟩
   case measure => decide
  ·
   have x0 := b_v HX 2 (.int .i64 h1) rfl
   have x1 := b_v HX 3 (.int .u64 l1) rfl
   go_upto_region 5 with fail
   have HY := am (blk_new wr (.cells #[h1, .int .u64 l1] 124))
   replace H5 := am (blk_alloc H5.out (.cells #[h1, .int .u64 l1] 124))
   replace HX := am (blk_alloc HX.out (.cells #[h1, .int .u64 l1] 124))
   replace HB := am (below_alloc HB.out (.cells #[h1, .int .u64 l1] 124))
   clear x0 x1
   generalize wr.alloc (.cells #[h1, .int .u64 l1] 124) = w3 at HY H5 HX HB ⊢
   generalize wr.heap.size = b7 at HY ⊢
   have y0 := b_v H5 0 (.int .i64 a0) rfl
   have y1 := b_v H5 1 (.int .u64 d0) rfl
   have z0 := b_v HY 0 (.int .i64 h1) rfl
   have z1 := b_v HY 1 (.int .u64 l1) rfl
   go_wp2_with fail
   refine (HA1.out w3 (HG.out.below HB.out)).mono ?_
   rintro e w4 ⟨rfl, hb⟩
   replace H5 := b_b H5 hb
   replace HX := b_b HX hb
   replace HB := b_s HB hb
   clear hb y0 y1 z0 z1 HY
   have y0 := b_v H5 0 (.int .i64 a0) rfl
   have y1 := b_v H5 1 (.int .u64 d0) rfl
   have f0 := b_z H5 0
   have f1 := b_z H5 1
   go_wp2_with fail
   obtain ⟨q, qb⟩ := two_set rfl H5.out g5 HB.out (.int .i64 a1) (.int .u64 d1)
   have qx := blk_far (blk_far HX.out (p := ⟨b5, 0, none⟩) nb (.int .i64 a1)) (p := ⟨b5, 1, none⟩) nb (.int .u64 d1)
   go_roundw
   case rel => exact ⟨2, by decide, rfl, ⟨q⟩, ⟨qx⟩, ⟨qb⟩⟩
   case measure => decide
  have y0 := b_v H5 0 (.int .i64 a1) rfl
  have y1 := b_v H5 1 (.int .u64 d1) rfl
  go_wp2_with fail
  refine (HH.out wr (HG.out.below HB.out)).mono ?_
  rintro e w4 ⟨rfl, hb⟩
  replace H5 := b_b H5 hb
  replace HB := b_s HB hb
  clear hb y0 y1
  have y0 := b_v H5 0 (.int .i64 a1) rfl
  have y1 := b_v H5 1 (.int .u64 d1) rfl
  have f0 := b_z H5 0
  have f1 := b_z H5 1
  go_upto_region 8 with fail
  obtain ⟨q, qb⟩ := two_set rfl H5.out g5 HB.out (.int .i64 hh) (.int .u64 hl)
  clear y0 y1 f0 f1
  generalize (w4.setCell ⟨b5, 0, none⟩ (.int .i64 hh)).setCell ⟨b5, 1, none⟩ (.int .u64 hl) = w5 at q qb ⊢
  have y0 := bcv q 0 (.int .i64 hh) rfl
  have y1 := bcv q 1 (.int .u64 hl) rfl
  have QB := am qb
  clear q qb
  go_wp2_with fail
  refine (HI.out w5 (HG.out.below QB.out)).mono ?_
  rintro e w6 ⟨rfl, hb⟩
  go_wp2_with fail
  go_ret
  exact ⟨rfl, below_step QB.out hb⟩
set_option maxRecDepth 100000 in
set_option maxHeartbeats 4000000 in
theorem on_tells (x0 x1 x2 th : Int) : ∃ r0 r1 r2 e, Tells 67 #[vec x0 x1 x2, th] (.tuple #[vec r0 r1 r2, .int .i64 e]) := by
 obtain ⟨kf, hf⟩ := vfits_tells x0 x1 x2
 obtain ⟨d, e0, hs⟩ := sub_tells th x2
 obtain ⟨mh, ml, mu, hm⟩ := mul_tells x1 256
 obtain ⟨p, hp⟩ := part2_tells 15 mh ml (d / 9223372036854775808) (IntKind.u64.wrap d) (by decide) (by decide) mu (u_wrap d)
 obtain ⟨q', hq⟩ := part1_tells 7 (d / 9223372036854775808) (IntKind.u64.wrap d) (by decide) (by decide) (u_wrap d)
 obtain ⟨r0, r1, r2, e1, ha⟩ := vadd_tells x0 x1 x2 p q' 0
 have HF := am hf
 have HS := am hs
 have HM := am hm
 have HP := am hp
 have HQ := am hq
 have HA := am ha
 clear hf hs hm hp hq ha mu
 unfold vec at HF HA
 unfold wide at HM
 unfold Ch.two at HS
 cases kf with
 | false =>
  refine ⟨0, 0, 0, 1, fun w hG => ?_⟩
  have HG := am hG
  clear hG
  unfold vec
  go_enter Tryz.func67, Tryz.ntmps67
  go_upto_region 1 with fail
  obtain ⟨x2', x4', hB⟩ := blocks2 w #[x0, x1, x2] #[(), (), ()] 26 26
  generalize (w.alloc (.cells #[x0, x1, x2] 26)).alloc (.cells #[(), (), ()] 26) = w1 at x2' x4' hB ⊢
  obtain ⟨b2, h2⟩ := e_x (w.heap.size)
  obtain ⟨b4, h4⟩ := e_x (w.heap.size + 1)
  have g4 : w.heap.size ≤ b4 := by omega
  have ne : b2 ≠ b4 := by omega
  rw [← h4, ← h2]
  rw [← h4] at x4'
  rw [← h2] at x2'
  have H2 := am x2'
  have H4 := am x4'
  have HB := am hB
  clear x2' x4' hB h2 h4
  have y20 := b_v H2 0 (.int .i64 x0) rfl
  have y21 := b_v H2 1 (.int .i64 x1) rfl
  have y22 := b_v H2 2 (.int .i64 x2) rfl
  go_wp2_with fail
  refine (HF.out w1 (HG.out.below HB.out)).mono ?_
  rintro e w2 ⟨rfl, hb⟩
  clear y20 y21 y22
  replace H2 := b_b H2 hb
  replace H4 := b_b H4 hb
  replace HB := b_s HB hb
  clear hb
  have y20 := b_v H2 0 (.int .i64 x0) rfl
  have y21 := b_v H2 1 (.int .i64 x1) rfl
  have y22 := b_v H2 2 (.int .i64 x2) rfl
  have y40 := b_v H4 0 (.int .i64 0) rfl
  have f40 := b_z H4 0
  have y41 := b_v H4 1 (.int .i64 0) rfl
  have f41 := b_z H4 1
  have y42 := b_v H4 2 (.int .i64 0) rfl
  have f42 := b_z H4 2
  go_wp2_with fail
  obtain ⟨q, qb⟩ := three_set rfl H4.out g4 HB.out (.int .i64 0) (.int .i64 0) (.int .i64 0)
  exact bodyPost_ret (results_ct rfl _ _ b4 26 _ (0, 0) _ rfl q Tryz.underlying26 rfl (by kernel_rfl)) rfl ⟨rfl, qb⟩
 | true =>
  cases ht : fits th with
  | false =>
   have HT := am ht
   clear ht
   refine ⟨0, 0, 0, 1, fun w hG => ?_⟩
   have HG := am hG
   clear hG
   unfold vec
   go_enter Tryz.func67, Tryz.ntmps67
   go_upto_region 1 with fail
   obtain ⟨x2', x4', hB⟩ := blocks2 w #[x0, x1, x2] #[(), (), ()] 26 26
   generalize (w.alloc (.cells #[x0, x1, x2] 26)).alloc (.cells #[(), (), ()] 26) = w1 at x2' x4' hB ⊢
   obtain ⟨b2, h2⟩ := e_x (w.heap.size)
   obtain ⟨b4, h4⟩ := e_x (w.heap.size + 1)
   have g4 : w.heap.size ≤ b4 := by omega
   have ne : b2 ≠ b4 := by omega
   rw [← h4, ← h2]
   rw [← h4] at x4'
   rw [← h2] at x2'
   have H2 := am x2'
   have H4 := am x4'
   have HB := am hB
   clear x2' x4' hB h2 h4
   have y20 := b_v H2 0 (.int .i64 x0) rfl
   have y21 := b_v H2 1 (.int .i64 x1) rfl
   have y22 := b_v H2 2 (.int .i64 x2) rfl
   go_wp2_with fail
   refine (HF.out w1 (HG.out.below HB.out)).mono ?_
   rintro e w2 ⟨rfl, hb⟩
   clear y20 y21 y22
   replace H2 := b_b H2 hb
   replace H4 := b_b H4 hb
   replace HB := b_s HB hb
   clear hb
   have y20 := b_v H2 0 (.int .i64 x0) rfl
   have y21 := b_v H2 1 (.int .i64 x1) rfl
   have y22 := b_v H2 2 (.int .i64 x2) rfl
   have y40 := b_v H4 0 (.int .i64 0) rfl
   have f40 := b_z H4 0
   have y41 := b_v H4 1 (.int .i64 0) rfl
   have f41 := b_z H4 1
   have y42 := b_v H4 2 (.int .i64 0) rfl
   have f42 := b_z H4 2
   go_wp2_with fail
   refine (fits_any w2 th).mono ?_
   rintro e w3 ⟨rfl, rfl⟩
   rw [HT.out]
   go_wp2_with fail
   obtain ⟨q, qb⟩ := three_set rfl H4.out g4 HB.out (.int .i64 0) (.int .i64 0) (.int .i64 0)
   exact bodyPost_ret (results_ct rfl _ _ b4 26 _ (0, 0) _ rfl q Tryz.underlying26 rfl (by kernel_rfl)) rfl ⟨rfl, qb⟩
  | true =>
   have HT := am ht
   clear ht
   by_cases h0 : e0 = 0
   ·
    subst h0
    refine ⟨r0, r1, r2, e1, fun w hG => ?_⟩
    have HG := am hG
    clear hG
    unfold vec
    go_enter Tryz.func67, Tryz.ntmps67
    go_upto_region 1 with fail
    obtain ⟨x2', x4', hB⟩ := blocks2 w #[x0, x1, x2] #[(), (), ()] 26 26
    generalize (w.alloc (.cells #[x0, x1, x2] 26)).alloc (.cells #[(), (), ()] 26) = w1 at x2' x4' hB ⊢
    obtain ⟨b2, h2⟩ := e_x (w.heap.size)
    obtain ⟨b4, h4⟩ := e_x (w.heap.size + 1)
    have g4 : w.heap.size ≤ b4 := by omega
    have ne : b2 ≠ b4 := by omega
    rw [← h4, ← h2]
    rw [← h4] at x4'
    rw [← h2] at x2'
    have H2 := am x2'
    have H4 := am x4'
    have HB := am hB
    clear x2' x4' hB h2 h4
    have y20 := b_v H2 0 (.int .i64 x0) rfl
    have y21 := b_v H2 1 (.int .i64 x1) rfl
    have y22 := b_v H2 2 (.int .i64 x2) rfl
    go_wp2_with fail
    refine (HF.out w1 (HG.out.below HB.out)).mono ?_
    rintro e w2 ⟨rfl, hb⟩
    clear y20 y21 y22
    replace H2 := b_b H2 hb
    replace H4 := b_b H4 hb
    replace HB := b_s HB hb
    clear hb
    have y20 := b_v H2 0 (.int .i64 x0) rfl
    have y21 := b_v H2 1 (.int .i64 x1) rfl
    have y22 := b_v H2 2 (.int .i64 x2) rfl
    have y40 := b_v H4 0 (.int .i64 0) rfl
    have f40 := b_z H4 0
    have y41 := b_v H4 1 (.int .i64 0) rfl
    have f41 := b_z H4 1
    have y42 := b_v H4 2 (.int .i64 0) rfl
    have f42 := b_z H4 2
    go_wp2_with fail
    refine (fits_any w2 th).mono ?_
    rintro e w3 ⟨rfl, rfl⟩
    rw [HT.out]
    go_wp2_with fail
    refine (HS.out _ (HG.out.below HB.out)).mono ?_
    rintro e w4 ⟨rfl, hb⟩
    clear y20 y21 y22 y40 y41 y42 f40 f41 f42
    replace H2 := b_b H2 hb
    replace H4 := b_b H4 hb
    replace HB := b_s HB hb
    clear hb
    have y40 := b_v H4 0 (.int .i64 0) rfl
    have f40 := b_z H4 0
    have y41 := b_v H4 1 (.int .i64 0) rfl
    have f41 := b_z H4 1
    have y42 := b_v H4 2 (.int .i64 0) rfl
    have f42 := b_z H4 2
    clear y40 y41 y42 f40 f41 f42
    go_upto_region 6 with fail
    refine s_t 18 (fun w' => w'.heap[b2]? = some (.cells #[x0, x1, x2] 26 (0, 0))) H2.out (fun hHeld => ?_)
    replace H2 := b_d H2
    replace H4 := b_d H4
    replace HB := am (below_drew HB.out)
    generalize w4.drew = wd at H2 H4 HB hHeld ⊢
    refine t_a 0 28 18 1 hHeld ?_ (hv := by rintro w' s0; have x0 := bcv s0 0 (.int .i64 x0) rfl; have x1 := bcv s0 1 (.int .i64 x1) rfl; have x2 := bcv s0 2 (.int .i64 x2) rfl; go_simp; with_reducible rfl)
    refine p_u 1 29 18 3 ?_
    refine t_a 2 30 18 7 hHeld ?_ (hv := by rintro w' s0; have x := bcv s0 1 (.int .i64 x1) rfl; go_simp; with_reducible rfl)
    refine p_u 4 32 18 23 ?_
    refine p_u 8 36 18 279 ?_
    refine o_n 3 31 18 287 fun K hK => ?_
    refine g_s Tryz.func98 #[x1, .int .i64 256] ?_
    refine (HM.out wd (HG.out.below HB.out)).mono ?_
    rintro e wa ⟨rfl, hb⟩
    replace H2 := b_b H2 hb
    replace H4 := b_b H4 hb
    replace HB := b_s HB hb
    clear hb hHeld
    refine ⟨_, rfl, ?_⟩
    refine hK.out _ _ H2.out (fun hHeld => ?_)
    clear hK K
    refine n_o 31 ?_
    refine o_n 5 33 18 319 fun K hK => ?_
    refine g_s Tryz.func79 #[d] ?_
    refine (wide_Of.calls d _ _ wa rfl).mono ?_
    rintro e wb ⟨rfl, hb⟩
    replace H2 := b_b H2 hb
    replace H4 := b_b H4 hb
    replace HB := b_s HB hb
    clear hb hHeld
    refine ⟨_, rfl, ?_⟩
    refine hK.out _ _ H2.out (fun hHeld => ?_)
    clear hK K
    refine n_o 33 ?_
    refine o_n 6 34 18 383 fun K hK => ?_
    refine event_step (v := .slice (some ⟨wb.heap.size, 0, none⟩) 2 2) (w1 := wb.alloc (.cells #[mh, .int .u64 ml, .int .i64 (d / 9223372036854775808), .int .u64 (IntKind.u64.wrap d)] 124)) (by rfl) (by first | (go_simp; done) | (go_simp; rfl)) ?_
    replace H2 := am (blk_alloc H2.out (.cells #[mh, .int .u64 ml, .int .i64 (d / 9223372036854775808), .int .u64 (IntKind.u64.wrap d)] 124))
    replace H4 := am (blk_alloc H4.out (.cells #[mh, .int .u64 ml, .int .i64 (d / 9223372036854775808), .int .u64 (IntKind.u64.wrap d)] 124))
    have HN := am (blk_new wb (.cells #[mh, .int .u64 ml, .int .i64 (d / 9223372036854775808), .int .u64 (IntKind.u64.wrap d)] 124))
    replace HB := am (below_alloc HB.out (.cells #[mh, .int .u64 ml, .int .i64 (d / 9223372036854775808), .int .u64 (IntKind.u64.wrap d)] 124))
    clear hHeld
    generalize wb.alloc (.cells #[mh, .int .u64 ml, .int .i64 (d / 9223372036854775808), .int .u64 (IntKind.u64.wrap d)] 124) = wc at H2 H4 HN HB ⊢
    generalize wb.heap.size = bn at HN ⊢
    refine hK.out _ _ H2.out (fun hHeld => ?_)
    clear hK K
    refine n_o 34 ?_
    refine o_n 7 35 18 511 fun K hK => ?_
    refine g_s Tryz.func97 #[.int .i64 15, .slice (some ⟨bn, 0, none⟩) 2 2] ?_
    refine (HP.out bn wc (HG.out.below HB.out) HN.out).mono ?_
    rintro e we ⟨rfl, hb⟩
    replace H2 := b_b H2 hb
    replace H4 := b_b H4 hb
    replace HB := b_s HB hb
    clear HN
    clear hb hHeld
    refine ⟨_, rfl, ?_⟩
    refine hK.out _ _ H2.out (fun hHeld => ?_)
    clear hK K
    refine n_o 35 ?_
    refine o_n 9 37 18 1023 fun K hK => ?_
    refine g_s Tryz.func79 #[d] ?_
    refine (wide_Of.calls d _ _ we rfl).mono ?_
    rintro e wf ⟨rfl, hb⟩
    replace H2 := b_b H2 hb
    replace H4 := b_b H4 hb
    replace HB := b_s HB hb
    clear hb hHeld
    refine ⟨_, rfl, ?_⟩
    refine hK.out _ _ H2.out (fun hHeld => ?_)
    clear hK K
    refine n_o 37 ?_
    refine o_n 10 38 18 2047 fun K hK => ?_
    refine event_step (v := .slice (some ⟨wf.heap.size, 0, none⟩) 1 1) (w1 := wf.alloc (.cells #[.int .i64 (d / 9223372036854775808), .int .u64 (IntKind.u64.wrap d)] 124)) (by rfl) (by first | (go_simp; done) | (go_simp; rfl)) ?_
    replace H2 := am (blk_alloc H2.out (.cells #[.int .i64 (d / 9223372036854775808), .int .u64 (IntKind.u64.wrap d)] 124))
    replace H4 := am (blk_alloc H4.out (.cells #[.int .i64 (d / 9223372036854775808), .int .u64 (IntKind.u64.wrap d)] 124))
    have HN := am (blk_new wf (.cells #[.int .i64 (d / 9223372036854775808), .int .u64 (IntKind.u64.wrap d)] 124))
    replace HB := am (below_alloc HB.out (.cells #[.int .i64 (d / 9223372036854775808), .int .u64 (IntKind.u64.wrap d)] 124))
    clear hHeld
    generalize wf.alloc (.cells #[.int .i64 (d / 9223372036854775808), .int .u64 (IntKind.u64.wrap d)] 124) = wg at H2 H4 HN HB ⊢
    generalize wf.heap.size = bn at HN ⊢
    refine hK.out _ _ H2.out (fun hHeld => ?_)
    clear hK K
    refine n_o 38 ?_
    refine o_n 11 39 18 4095 fun K hK => ?_
    refine g_s Tryz.func97 #[.int .i64 7, .slice (some ⟨bn, 0, none⟩) 1 1] ?_
    refine (HQ.out bn wg (HG.out.below HB.out) HN.out).mono ?_
    rintro e wh ⟨rfl, hb⟩
    replace H2 := b_b H2 hb
    replace H4 := b_b H4 hb
    replace HB := b_s HB hb
    clear HN
    clear hb hHeld
    refine ⟨_, rfl, ?_⟩
    refine hK.out _ _ H2.out (fun hHeld => ?_)
    clear hK K
    refine n_o 39 ?_
    refine p_u 12 40 18 8191 ?_
    refine o_n 13 41 18 16383 fun K hK => ?_
    refine g_s Tryz.func96 #[.agg #[x0, x1, x2], .agg #[p, q', ()]] ?_
    refine (HA.out wh (HG.out.below HB.out)).mono ?_
    rintro e wi ⟨rfl, hb⟩
    replace H2 := b_b H2 hb
    replace H4 := b_b H4 hb
    replace HB := b_s HB hb
    clear hb hHeld
    refine ⟨_, rfl, ?_⟩
    refine hK.out _ _ H2.out (fun hHeld => ?_)
    clear hK K
    refine n_o 41 ?_
    refine p_u 14 42 18 32767 ?_
    refine p_u 15 43 18 65535 ?_
    have y40 := b_v H4 0 (.int .i64 0) rfl
    have f40 := b_z H4 0
    have y41 := b_v H4 1 (.int .i64 0) rfl
    have f41 := b_z H4 1
    have y42 := b_v H4 2 (.int .i64 0) rfl
    have f42 := b_z H4 2
    refine o_0 16 18 131071 fun K hK => ?_
    refine s_k (((wi.setCell ⟨b4, 0, none⟩ (.int .i64 r0)).setCell ⟨b4, 1, none⟩ (.int .i64 r1)).setCell ⟨b4, 2, none⟩ (.int .i64 r2)) ?_
    obtain ⟨q, qb⟩ := three_set rfl H4.out g4 HB.out (.int .i64 r0) (.int .i64 r1) (.int .i64 r2)
    have q2 := blk_far (blk_far (blk_far H2.out (p := ⟨b4, 0, none⟩) ne (.int .i64 r0)) (p := ⟨b4, 1, none⟩) ne (.int .i64 r1)) (p := ⟨b4, 2, none⟩) ne (.int .i64 r2)
    clear hHeld y40 y41 y42 f40 f41 f42 H2 H4 HB
    generalize ((wi.setCell ⟨b4, 0, none⟩ (.int .i64 r0)).setCell ⟨b4, 1, none⟩ (.int .i64 r1)).setCell ⟨b4, 2, none⟩ (.int .i64 r2) = wj at q qb q2 ⊢
    have H2 := am q2
    have H4 := am q
    have HB := am qb
    clear q qb q2
    refine hK.out _ _ H2.out (fun hHeld => ?_)
    clear hK K
    refine p_u 17 5 18 262143 ?_
    refine d_n ?_
    go_wp2_with fail
    exact bodyPost_ret (results_ct rfl _ _ b4 26 _ (0, 0) _ rfl H4.out Tryz.underlying26 rfl (by kernel_rfl)) rfl ⟨rfl, HB.out⟩
   have q1 : (e0 == 0) = false := by simp [h0]
   have q2 : decide (e0 = 0) = false := decide_eq_false h0
   refine ⟨0, 0, 0, e0, fun w hG => ?_⟩
   have HG := am hG
   clear hG
   unfold vec
   go_enter Tryz.func67, Tryz.ntmps67
   go_upto_region 1 with fail
   obtain ⟨x2', x4', hB⟩ := blocks2 w #[x0, x1, x2] #[(), (), ()] 26 26
   generalize (w.alloc (.cells #[x0, x1, x2] 26)).alloc (.cells #[(), (), ()] 26) = w1 at x2' x4' hB ⊢
   obtain ⟨b2, h2⟩ := e_x (w.heap.size)
   obtain ⟨b4, h4⟩ := e_x (w.heap.size + 1)
   have g4 : w.heap.size ≤ b4 := by omega
   have ne : b2 ≠ b4 := by omega
   rw [← h4, ← h2]
   rw [← h4] at x4'
   rw [← h2] at x2'
   have H2 := am x2'
   have H4 := am x4'
   have HB := am hB
   clear x2' x4' hB h2 h4
   have y20 := b_v H2 0 (.int .i64 x0) rfl
   have y21 := b_v H2 1 (.int .i64 x1) rfl
   have y22 := b_v H2 2 (.int .i64 x2) rfl
   go_wp2_with fail
   refine (HF.out w1 (HG.out.below HB.out)).mono ?_
   rintro e w2 ⟨rfl, hb⟩
   clear y20 y21 y22
   replace H2 := b_b H2 hb
   replace H4 := b_b H4 hb
   replace HB := b_s HB hb
   clear hb
   have y20 := b_v H2 0 (.int .i64 x0) rfl
   have y21 := b_v H2 1 (.int .i64 x1) rfl
   have y22 := b_v H2 2 (.int .i64 x2) rfl
   have y40 := b_v H4 0 (.int .i64 0) rfl
   have f40 := b_z H4 0
   have y41 := b_v H4 1 (.int .i64 0) rfl
   have f41 := b_z H4 1
   have y42 := b_v H4 2 (.int .i64 0) rfl
   have f42 := b_z H4 2
   go_wp2_with fail
   refine (fits_any w2 th).mono ?_
   rintro e w3 ⟨rfl, rfl⟩
   rw [HT.out]
   go_wp2_with fail
   refine (HS.out _ (HG.out.below HB.out)).mono ?_
   rintro e w4 ⟨rfl, hb⟩
   clear y20 y21 y22 y40 y41 y42 f40 f41 f42
   replace H2 := b_b H2 hb
   replace H4 := b_b H4 hb
   replace HB := b_s HB hb
   clear hb
   have y40 := b_v H4 0 (.int .i64 0) rfl
   have f40 := b_z H4 0
   have y41 := b_v H4 1 (.int .i64 0) rfl
   have f41 := b_z H4 1
   have y42 := b_v H4 2 (.int .i64 0) rfl
   have f42 := b_z H4 2
   go_wp2_with fail
   obtain ⟨q, qb⟩ := three_set rfl H4.out g4 HB.out (.int .i64 0) (.int .i64 0) (.int .i64 0)
   exact bodyPost_ret (results_ct rfl _ _ b4 26 _ (0, 0) _ rfl q Tryz.underlying26 rfl (by kernel_rfl)) rfl ⟨rfl, qb⟩
set_option maxRecDepth 100000 in
set_option maxHeartbeats 4000000 in
theorem cross_tells (a b c d : Int) : ∃ x e, Tells 113 #[a, b, c, d] (Ch.two x e) := by
 obtain ⟨h0, l0, u0, t0⟩ := mul_tells a b
 obtain ⟨h1, l1, u1, t1⟩ := mul_tells c d
 obtain ⟨h2, l2, e2, u2, t2⟩ := wadd_tells h0 l0 h1 l1 u0 u1
 obtain ⟨h3, l3, u3, t3⟩ := half_tells h2 l2 40 u2 (by decide) (by decide)
 obtain ⟨x, e4, t4⟩ := int_tells h3 l3
 have H0 := am t0
 have H1 := am t1
 have H2 := am t2
 have H3 := am t3
 have H4 := am t4
 clear t0 t1 t2 t3 t4 u0 u1 u2 u3
 by_cases he : e4 = 0
 ·
  subst he
  cases hf : fits x with
  | true =>
   have HF := am hf
   clear hf
   refine ⟨x, 0, fun w hG => ?_⟩
   have HG := am hG
   clear hG
   unfold wide at H0 H1 H2 H3 H4
   unfold Ch.two at H4 ⊢
   go_enter Tryz.func113, Tryz.ntmps113
   go_wp2_with fail
   refine (H0.out w HG.out).mono ?_
   rintro e w1 ⟨rfl, hb⟩
   have HB := am hb
   clear hb
   go_wp2_with fail
   refine (H1.out w1 (HG.out.below HB.out)).mono ?_
   rintro e w2 ⟨rfl, hb⟩
   replace HB := b_s HB hb
   clear hb
   go_wp2_with fail
   refine (H2.out w2 (HG.out.below HB.out)).mono ?_
   rintro e w3 ⟨rfl, hb⟩
   go_upto_region 2 with fail
   have HY := am (blk_new w3 (.cells #[h2, .int .u64 l2] 124))
   replace HB := am (below_alloc (below_step HB.out hb) (.cells #[h2, .int .u64 l2] 124))
   clear hb
   generalize w3.alloc (.cells #[h2, .int .u64 l2] 124) = w4 at HY HB ⊢
   generalize w3.heap.size = b10 at HY ⊢
   have y100 := b_l HY 0 rfl
   have y101 := b_l HY 1 rfl
   go_wp2_with fail
   refine (H3.out w4 (HG.out.below HB.out)).mono ?_
   rintro e w5 ⟨rfl, hb⟩
   clear y100 y101 HY
   go_upto_region 3 with fail
   have HY := am (blk_new w5 (.cells #[h3, .int .u64 l3] 124))
   replace HB := am (below_alloc (below_step HB.out hb) (.cells #[h3, .int .u64 l3] 124))
   clear hb
   generalize w5.alloc (.cells #[h3, .int .u64 l3] 124) = w6 at HY HB ⊢
   generalize w5.heap.size = b12 at HY ⊢
   have y120 := b_l HY 0 rfl
   have y121 := b_l HY 1 rfl
   go_wp2_with fail
   refine (H4.out w6 (HG.out.below HB.out)).mono ?_
   rintro e w7 ⟨rfl, hb⟩
   replace HB := b_s HB hb
   clear hb y120 y121 HY
   go_wp2_with fail
   refine (fits_any w7 x).mono ?_
   rintro e w8 ⟨rfl, rfl⟩
   rw [HF.out]
   go_wp2_with fail
   go_ret2
   exact ⟨rfl, HB.out⟩
  | false =>
   have HF := am hf
   clear hf
   refine ⟨0, 3, fun w hG => ?_⟩
   have HG := am hG
   clear hG
   unfold wide at H0 H1 H2 H3 H4
   unfold Ch.two at H4 ⊢
   go_enter Tryz.func113, Tryz.ntmps113
   go_wp2_with fail
   refine (H0.out w HG.out).mono ?_
   rintro e w1 ⟨rfl, hb⟩
   have HB := am hb
   clear hb
   go_wp2_with fail
   refine (H1.out w1 (HG.out.below HB.out)).mono ?_
   rintro e w2 ⟨rfl, hb⟩
   replace HB := b_s HB hb
   clear hb
   go_wp2_with fail
   refine (H2.out w2 (HG.out.below HB.out)).mono ?_
   rintro e w3 ⟨rfl, hb⟩
   go_upto_region 2 with fail
   have HY := am (blk_new w3 (.cells #[h2, .int .u64 l2] 124))
   replace HB := am (below_alloc (below_step HB.out hb) (.cells #[h2, .int .u64 l2] 124))
   clear hb
   generalize w3.alloc (.cells #[h2, .int .u64 l2] 124) = w4 at HY HB ⊢
   generalize w3.heap.size = b10 at HY ⊢
   have y100 := b_l HY 0 rfl
   have y101 := b_l HY 1 rfl
   go_wp2_with fail
   refine (H3.out w4 (HG.out.below HB.out)).mono ?_
   rintro e w5 ⟨rfl, hb⟩
   clear y100 y101 HY
   go_upto_region 3 with fail
   have HY := am (blk_new w5 (.cells #[h3, .int .u64 l3] 124))
   replace HB := am (below_alloc (below_step HB.out hb) (.cells #[h3, .int .u64 l3] 124))
   clear hb
   generalize w5.alloc (.cells #[h3, .int .u64 l3] 124) = w6 at HY HB ⊢
   generalize w5.heap.size = b12 at HY ⊢
   have y120 := b_l HY 0 rfl
   have y121 := b_l HY 1 rfl
   go_wp2_with fail
   refine (H4.out w6 (HG.out.below HB.out)).mono ?_
   rintro e w7 ⟨rfl, hb⟩
   replace HB := b_s HB hb
   clear hb y120 y121 HY
   go_wp2_with fail
   refine (fits_any w7 x).mono ?_
   rintro e w8 ⟨rfl, rfl⟩
   rw [HF.out]
   go_wp2_with fail
   go_ret2
   exact ⟨rfl, HB.out⟩
 have q1 : (e4 == 0) = false := by simp [he]
 have q2 : decide (e4 = 0) = false := decide_eq_false he
 refine ⟨0, 3, fun w hG => ?_⟩
 have HG := am hG
 clear hG
 unfold wide at H0 H1 H2 H3 H4
 unfold Ch.two at H4 ⊢
 go_enter Tryz.func113, Tryz.ntmps113
 go_wp2_with fail
 refine (H0.out w HG.out).mono ?_
 rintro e w1 ⟨rfl, hb⟩
 have HB := am hb
 clear hb
 go_wp2_with fail
 refine (H1.out w1 (HG.out.below HB.out)).mono ?_
 rintro e w2 ⟨rfl, hb⟩
 replace HB := b_s HB hb
 clear hb
 go_wp2_with fail
 refine (H2.out w2 (HG.out.below HB.out)).mono ?_
 rintro e w3 ⟨rfl, hb⟩
 go_upto_region 2 with fail
 have HY := am (blk_new w3 (.cells #[h2, .int .u64 l2] 124))
 replace HB := am (below_alloc (below_step HB.out hb) (.cells #[h2, .int .u64 l2] 124))
 clear hb
 generalize w3.alloc (.cells #[h2, .int .u64 l2] 124) = w4 at HY HB ⊢
 generalize w3.heap.size = b10 at HY ⊢
 have y100 := b_l HY 0 rfl
 have y101 := b_l HY 1 rfl
 go_wp2_with fail
 refine (H3.out w4 (HG.out.below HB.out)).mono ?_
 rintro e w5 ⟨rfl, hb⟩
 clear y100 y101 HY
 go_upto_region 3 with fail
 have HY := am (blk_new w5 (.cells #[h3, .int .u64 l3] 124))
 replace HB := am (below_alloc (below_step HB.out hb) (.cells #[h3, .int .u64 l3] 124))
 clear hb
 generalize w5.alloc (.cells #[h3, .int .u64 l3] 124) = w6 at HY HB ⊢
 generalize w5.heap.size = b12 at HY ⊢
 have y120 := b_l HY 0 rfl
 have y121 := b_l HY 1 rfl
 go_wp2_with fail
 refine (H4.out w6 (HG.out.below HB.out)).mono ?_
 rintro e w7 ⟨rfl, hb⟩
 replace HB := b_s HB hb
 clear hb y120 y121 HY
 go_wp2_with fail
 go_ret2
 exact ⟨rfl, HB.out⟩
set_option maxRecDepth 100000 in
set_option maxHeartbeats 4000000 in
theorem state_tells (x0 x1 x2 k0 k1 k2 y : Int) : ∃ r0 r1 r2 e, Tells 75 #[vec x0 x1 x2, vec k0 k1 k2, y] (.tuple #[vec r0 r1 r2, .int .i64 e]) := by
 obtain ⟨kx, hx⟩ := vfits_tells x0 x1 x2
 obtain ⟨kk, hk⟩ := vfits_tells k0 k1 k2
 obtain ⟨d0, d1, d2, e1, hs⟩ := vscale_tells k0 k1 k2 y
 obtain ⟨r0, r1, r2, e2, ha⟩ := vadd_tells x0 x1 x2 d0 d1 d2
 have HX := am hx
 have HK := am hk
 have HS := am hs
 have HA := am ha
 clear hx hk hs ha
 cases kx with
 | false =>
  refine ⟨0, 0, 0, 1, fun w hG => ?_⟩
  have HG := am hG
  clear hG
  unfold vec at HX HK HS HA ⊢
  go_enter Tryz.func75, Tryz.ntmps75
  go_upto_region 1 with fail
  obtain ⟨x3', x4', x6', hB⟩ := blocks3 w #[x0, x1, x2] #[k0, k1, k2] #[(), (), ()] 26 26 26
  generalize ((w.alloc (.cells #[x0, x1, x2] 26)).alloc (.cells #[k0, k1, k2] 26)).alloc (.cells #[(), (), ()] 26) = w1 at x3' x4' x6' hB ⊢
  obtain ⟨b3, h3⟩ := e_x (w.heap.size)
  obtain ⟨b4, h4⟩ := e_x (w.heap.size + 1)
  obtain ⟨b6, h6⟩ := e_x (w.heap.size + 1 + 1)
  have g6 : w.heap.size ≤ b6 := by omega
  rw [← h6, ← h4, ← h3]
  rw [← h6] at x6'
  rw [← h4] at x4'
  rw [← h3] at x3'
  have H3 := am x3'
  have H4 := am x4'
  have H6 := am x6'
  have HB := am hB
  clear x3' x4' x6' hB h3 h4 h6
  have y30 := b_l H3 0 rfl
  have y31 := b_l H3 1 rfl
  have y32 := b_l H3 2 rfl
  go_wp2_with fail
  refine (HX.out w1 (HG.out.below HB.out)).mono ?_
  rintro e w2 ⟨rfl, hb⟩
  clear y30 y31 y32
  replace H3 := b_b H3 hb
  replace H4 := b_b H4 hb
  replace H6 := b_b H6 hb
  replace HB := b_s HB hb
  clear hb
  have y40 := b_l H4 0 rfl
  have y41 := b_l H4 1 rfl
  have y42 := b_l H4 2 rfl
  have y60 := b_l H6 0 rfl
  have f60 := b_z H6 0
  have y61 := b_l H6 1 rfl
  have f61 := b_z H6 1
  have y62 := b_l H6 2 rfl
  have f62 := b_z H6 2
  go_wp2_with fail
  obtain ⟨q, qb⟩ := three_set rfl H6.out g6 HB.out (.int .i64 0) (.int .i64 0) (.int .i64 0)
  exact bodyPost_ret (results_ct rfl _ _ b6 26 _ (0, 0) _ rfl q Tryz.underlying26 rfl (by kernel_rfl)) rfl ⟨rfl, qb⟩
 | true =>
  cases kk with
  | false =>
   refine ⟨0, 0, 0, 1, fun w hG => ?_⟩
   have HG := am hG
   clear hG
   unfold vec at HX HK HS HA ⊢
   go_enter Tryz.func75, Tryz.ntmps75
   go_upto_region 1 with fail
   obtain ⟨x3', x4', x6', hB⟩ := blocks3 w #[x0, x1, x2] #[k0, k1, k2] #[(), (), ()] 26 26 26
   generalize ((w.alloc (.cells #[x0, x1, x2] 26)).alloc (.cells #[k0, k1, k2] 26)).alloc (.cells #[(), (), ()] 26) = w1 at x3' x4' x6' hB ⊢
   obtain ⟨b3, h3⟩ := e_x (w.heap.size)
   obtain ⟨b4, h4⟩ := e_x (w.heap.size + 1)
   obtain ⟨b6, h6⟩ := e_x (w.heap.size + 1 + 1)
   have g6 : w.heap.size ≤ b6 := by omega
   rw [← h6, ← h4, ← h3]
   rw [← h6] at x6'
   rw [← h4] at x4'
   rw [← h3] at x3'
   have H3 := am x3'
   have H4 := am x4'
   have H6 := am x6'
   have HB := am hB
   clear x3' x4' x6' hB h3 h4 h6
   have y30 := b_l H3 0 rfl
   have y31 := b_l H3 1 rfl
   have y32 := b_l H3 2 rfl
   go_wp2_with fail
   refine (HX.out w1 (HG.out.below HB.out)).mono ?_
   rintro e w2 ⟨rfl, hb⟩
   clear y30 y31 y32
   replace H3 := b_b H3 hb
   replace H4 := b_b H4 hb
   replace H6 := b_b H6 hb
   replace HB := b_s HB hb
   clear hb
   have y40 := b_l H4 0 rfl
   have y41 := b_l H4 1 rfl
   have y42 := b_l H4 2 rfl
   have y60 := b_l H6 0 rfl
   have f60 := b_z H6 0
   have y61 := b_l H6 1 rfl
   have f61 := b_z H6 1
   have y62 := b_l H6 2 rfl
   have f62 := b_z H6 2
   go_wp2_with fail
   refine (HK.out w2 (HG.out.below HB.out)).mono ?_
   rintro e w3 ⟨rfl, hb⟩
   clear y40 y41 y42 y60 y61 y62 f60 f61 f62
   replace H3 := b_b H3 hb
   replace H4 := b_b H4 hb
   replace H6 := b_b H6 hb
   replace HB := b_s HB hb
   clear hb
   have y40 := b_l H4 0 rfl
   have y41 := b_l H4 1 rfl
   have y42 := b_l H4 2 rfl
   have y60 := b_l H6 0 rfl
   have f60 := b_z H6 0
   have y61 := b_l H6 1 rfl
   have f61 := b_z H6 1
   have y62 := b_l H6 2 rfl
   have f62 := b_z H6 2
   go_wp2_with fail
   obtain ⟨q, qb⟩ := three_set rfl H6.out g6 HB.out (.int .i64 0) (.int .i64 0) (.int .i64 0)
   exact bodyPost_ret (results_ct rfl _ _ b6 26 _ (0, 0) _ rfl q Tryz.underlying26 rfl (by kernel_rfl)) rfl ⟨rfl, qb⟩
  | true =>
   cases hy : fits y with
   | false =>
    have HY := am hy
    clear hy
    refine ⟨0, 0, 0, 1, fun w hG => ?_⟩
    have HG := am hG
    clear hG
    unfold vec at HX HK HS HA ⊢
    go_enter Tryz.func75, Tryz.ntmps75
    go_upto_region 1 with fail
    obtain ⟨x3', x4', x6', hB⟩ := blocks3 w #[x0, x1, x2] #[k0, k1, k2] #[(), (), ()] 26 26 26
    generalize ((w.alloc (.cells #[x0, x1, x2] 26)).alloc (.cells #[k0, k1, k2] 26)).alloc (.cells #[(), (), ()] 26) = w1 at x3' x4' x6' hB ⊢
    obtain ⟨b3, h3⟩ := e_x (w.heap.size)
    obtain ⟨b4, h4⟩ := e_x (w.heap.size + 1)
    obtain ⟨b6, h6⟩ := e_x (w.heap.size + 1 + 1)
    have g6 : w.heap.size ≤ b6 := by omega
    rw [← h6, ← h4, ← h3]
    rw [← h6] at x6'
    rw [← h4] at x4'
    rw [← h3] at x3'
    have H3 := am x3'
    have H4 := am x4'
    have H6 := am x6'
    have HB := am hB
    clear x3' x4' x6' hB h3 h4 h6
    have y30 := b_l H3 0 rfl
    have y31 := b_l H3 1 rfl
    have y32 := b_l H3 2 rfl
    go_wp2_with fail
    refine (HX.out w1 (HG.out.below HB.out)).mono ?_
    rintro e w2 ⟨rfl, hb⟩
    clear y30 y31 y32
    replace H3 := b_b H3 hb
    replace H4 := b_b H4 hb
    replace H6 := b_b H6 hb
    replace HB := b_s HB hb
    clear hb
    have y40 := b_l H4 0 rfl
    have y41 := b_l H4 1 rfl
    have y42 := b_l H4 2 rfl
    have y60 := b_l H6 0 rfl
    have f60 := b_z H6 0
    have y61 := b_l H6 1 rfl
    have f61 := b_z H6 1
    have y62 := b_l H6 2 rfl
    have f62 := b_z H6 2
    go_wp2_with fail
    refine (HK.out w2 (HG.out.below HB.out)).mono ?_
    rintro e w3 ⟨rfl, hb⟩
    clear y40 y41 y42 y60 y61 y62 f60 f61 f62
    replace H3 := b_b H3 hb
    replace H4 := b_b H4 hb
    replace H6 := b_b H6 hb
    replace HB := b_s HB hb
    clear hb
    have y40 := b_l H4 0 rfl
    have y41 := b_l H4 1 rfl
    have y42 := b_l H4 2 rfl
    have y60 := b_l H6 0 rfl
    have f60 := b_z H6 0
    have y61 := b_l H6 1 rfl
    have f61 := b_z H6 1
    have y62 := b_l H6 2 rfl
    have f62 := b_z H6 2
    go_wp2_with fail
    refine (fits_any w3 y).mono ?_
    rintro e w4 ⟨rfl, rfl⟩
    rw [HY.out]
    go_wp2_with fail
    obtain ⟨q, qb⟩ := three_set rfl H6.out g6 HB.out (.int .i64 0) (.int .i64 0) (.int .i64 0)
    exact bodyPost_ret (results_ct rfl _ _ b6 26 _ (0, 0) _ rfl q Tryz.underlying26 rfl (by kernel_rfl)) rfl ⟨rfl, qb⟩
   | true =>
    have HY := am hy
    clear hy
    by_cases h0 : e1 = 0
    ·
     subst h0
     refine ⟨r0, r1, r2, e2, fun w hG => ?_⟩
     have HG := am hG
     clear hG
     unfold vec at HX HK HS HA ⊢
     go_enter Tryz.func75, Tryz.ntmps75
     go_upto_region 1 with fail
     obtain ⟨x3', x4', x6', hB⟩ := blocks3 w #[x0, x1, x2] #[k0, k1, k2] #[(), (), ()] 26 26 26
     generalize ((w.alloc (.cells #[x0, x1, x2] 26)).alloc (.cells #[k0, k1, k2] 26)).alloc (.cells #[(), (), ()] 26) = w1 at x3' x4' x6' hB ⊢
     obtain ⟨b3, h3⟩ := e_x (w.heap.size)
     obtain ⟨b4, h4⟩ := e_x (w.heap.size + 1)
     obtain ⟨b6, h6⟩ := e_x (w.heap.size + 1 + 1)
     have g6 : w.heap.size ≤ b6 := by omega
     rw [← h6, ← h4, ← h3]
     rw [← h6] at x6'
     rw [← h4] at x4'
     rw [← h3] at x3'
     have H3 := am x3'
     have H4 := am x4'
     have H6 := am x6'
     have HB := am hB
     clear x3' x4' x6' hB h3 h4 h6
     have y30 := b_l H3 0 rfl
     have y31 := b_l H3 1 rfl
     have y32 := b_l H3 2 rfl
     go_wp2_with fail
     refine (HX.out w1 (HG.out.below HB.out)).mono ?_
     rintro e w2 ⟨rfl, hb⟩
     clear y30 y31 y32
     replace H3 := b_b H3 hb
     replace H4 := b_b H4 hb
     replace H6 := b_b H6 hb
     replace HB := b_s HB hb
     clear hb
     have y40 := b_l H4 0 rfl
     have y41 := b_l H4 1 rfl
     have y42 := b_l H4 2 rfl
     have y60 := b_l H6 0 rfl
     have f60 := b_z H6 0
     have y61 := b_l H6 1 rfl
     have f61 := b_z H6 1
     have y62 := b_l H6 2 rfl
     have f62 := b_z H6 2
     go_wp2_with fail
     refine (HK.out w2 (HG.out.below HB.out)).mono ?_
     rintro e w3 ⟨rfl, hb⟩
     clear y40 y41 y42 y60 y61 y62 f60 f61 f62
     replace H3 := b_b H3 hb
     replace H4 := b_b H4 hb
     replace H6 := b_b H6 hb
     replace HB := b_s HB hb
     clear hb
     have y40 := b_l H4 0 rfl
     have y41 := b_l H4 1 rfl
     have y42 := b_l H4 2 rfl
     have y60 := b_l H6 0 rfl
     have f60 := b_z H6 0
     have y61 := b_l H6 1 rfl
     have f61 := b_z H6 1
     have y62 := b_l H6 2 rfl
     have f62 := b_z H6 2
     go_wp2_with fail
     refine (fits_any w3 y).mono ?_
     rintro e w4 ⟨rfl, rfl⟩
     rw [HY.out]
     go_wp2_with fail
     refine (HS.out _ (HG.out.below HB.out)).mono ?_
     rintro e w5 ⟨rfl, hb⟩
     clear y40 y41 y42 y60 y61 y62 f60 f61 f62
     go_upto_region 4 with fail
     have HD := am (blk_new w5 (.cells #[d0, d1, d2] 26))
     replace H3 := am (blk_alloc (blk_below H3.out hb) (.cells #[d0, d1, d2] 26))
     replace H6 := am (blk_alloc (blk_below H6.out hb) (.cells #[d0, d1, d2] 26))
     replace HB := am (below_alloc (below_step HB.out hb) (.cells #[d0, d1, d2] 26))
     clear hb H4
     generalize w5.alloc (.cells #[d0, d1, d2] 26) = w6 at HD H3 H6 HB ⊢
     generalize w5.heap.size = b8 at HD ⊢
     have y30 := b_l H3 0 rfl
     have y31 := b_l H3 1 rfl
     have y32 := b_l H3 2 rfl
     have y80 := b_l HD 0 rfl
     have y81 := b_l HD 1 rfl
     have y82 := b_l HD 2 rfl
     go_wp2_with fail
     refine (HA.out w6 (HG.out.below HB.out)).mono ?_
     rintro e w7 ⟨rfl, hb⟩
     replace H6 := b_b H6 hb
     replace HB := b_s HB hb
     clear hb y30 y31 y32 y80 y81 y82
     have y60 := b_l H6 0 rfl
     have f60 := b_z H6 0
     have y61 := b_l H6 1 rfl
     have f61 := b_z H6 1
     have y62 := b_l H6 2 rfl
     have f62 := b_z H6 2
     go_wp2_with fail
     obtain ⟨q, qb⟩ := three_set rfl H6.out g6 HB.out (.int .i64 r0) (.int .i64 r1) (.int .i64 r2)
     exact bodyPost_ret (results_ct rfl _ _ b6 26 _ (0, 0) _ rfl q Tryz.underlying26 rfl (by kernel_rfl)) rfl ⟨rfl, qb⟩
    have q1 : (e1 == 0) = false := by simp [h0]
    have q2 : decide (e1 = 0) = false := decide_eq_false h0
    refine ⟨0, 0, 0, e1, fun w hG => ?_⟩
    have HG := am hG
    clear hG
    unfold vec at HX HK HS HA ⊢
    go_enter Tryz.func75, Tryz.ntmps75
    go_upto_region 1 with fail
    obtain ⟨x3', x4', x6', hB⟩ := blocks3 w #[x0, x1, x2] #[k0, k1, k2] #[(), (), ()] 26 26 26
    generalize ((w.alloc (.cells #[x0, x1, x2] 26)).alloc (.cells #[k0, k1, k2] 26)).alloc (.cells #[(), (), ()] 26) = w1 at x3' x4' x6' hB ⊢
    obtain ⟨b3, h3⟩ := e_x (w.heap.size)
    obtain ⟨b4, h4⟩ := e_x (w.heap.size + 1)
    obtain ⟨b6, h6⟩ := e_x (w.heap.size + 1 + 1)
    have g6 : w.heap.size ≤ b6 := by omega
    rw [← h6, ← h4, ← h3]
    rw [← h6] at x6'
    rw [← h4] at x4'
    rw [← h3] at x3'
    have H3 := am x3'
    have H4 := am x4'
    have H6 := am x6'
    have HB := am hB
    clear x3' x4' x6' hB h3 h4 h6
    have y30 := b_l H3 0 rfl
    have y31 := b_l H3 1 rfl
    have y32 := b_l H3 2 rfl
    go_wp2_with fail
    refine (HX.out w1 (HG.out.below HB.out)).mono ?_
    rintro e w2 ⟨rfl, hb⟩
    clear y30 y31 y32
    replace H3 := b_b H3 hb
    replace H4 := b_b H4 hb
    replace H6 := b_b H6 hb
    replace HB := b_s HB hb
    clear hb
    have y40 := b_l H4 0 rfl
    have y41 := b_l H4 1 rfl
    have y42 := b_l H4 2 rfl
    have y60 := b_l H6 0 rfl
    have f60 := b_z H6 0
    have y61 := b_l H6 1 rfl
    have f61 := b_z H6 1
    have y62 := b_l H6 2 rfl
    have f62 := b_z H6 2
    go_wp2_with fail
    refine (HK.out w2 (HG.out.below HB.out)).mono ?_
    rintro e w3 ⟨rfl, hb⟩
    clear y40 y41 y42 y60 y61 y62 f60 f61 f62
    replace H3 := b_b H3 hb
    replace H4 := b_b H4 hb
    replace H6 := b_b H6 hb
    replace HB := b_s HB hb
    clear hb
    have y40 := b_l H4 0 rfl
    have y41 := b_l H4 1 rfl
    have y42 := b_l H4 2 rfl
    have y60 := b_l H6 0 rfl
    have f60 := b_z H6 0
    have y61 := b_l H6 1 rfl
    have f61 := b_z H6 1
    have y62 := b_l H6 2 rfl
    have f62 := b_z H6 2
    go_wp2_with fail
    refine (fits_any w3 y).mono ?_
    rintro e w4 ⟨rfl, rfl⟩
    rw [HY.out]
    go_wp2_with fail
    refine (HS.out _ (HG.out.below HB.out)).mono ?_
    rintro e w5 ⟨rfl, hb⟩
    clear y40 y41 y42 y60 y61 y62 f60 f61 f62
    go_upto_region 4 with fail
    have HD := am (blk_new w5 (.cells #[d0, d1, d2] 26))
    replace H3 := am (blk_alloc (blk_below H3.out hb) (.cells #[d0, d1, d2] 26))
    replace H6 := am (blk_alloc (blk_below H6.out hb) (.cells #[d0, d1, d2] 26))
    replace HB := am (below_alloc (below_step HB.out hb) (.cells #[d0, d1, d2] 26))
    clear hb H4
    generalize w5.alloc (.cells #[d0, d1, d2] 26) = w6 at HD H3 H6 HB ⊢
    generalize w5.heap.size = b8 at HD ⊢
    have y60 := b_l H6 0 rfl
    have f60 := b_z H6 0
    have y61 := b_l H6 1 rfl
    have f61 := b_z H6 1
    have y62 := b_l H6 2 rfl
    have f62 := b_z H6 2
    go_wp2_with fail
    obtain ⟨q, qb⟩ := three_set rfl H6.out g6 HB.out (.int .i64 0) (.int .i64 0) (.int .i64 0)
    exact bodyPost_ret (results_ct rfl _ _ b6 26 _ (0, 0) _ rfl q Tryz.underlying26 rfl (by kernel_rfl)) rfl ⟨rfl, qb⟩
set_option maxRecDepth 100000 in
set_option maxHeartbeats 4000000 in
theorem look_tells (x0 x1 x2 p0 p1 p2 p3 p4 p5 z n : Int) : ∃ y s e, Tells 72 #[vec x0 x1 x2, sym p0 p1 p2 p3 p4 p5, z, n] (.tuple #[.int .i64 y, .int .i64 s, .int .i64 e]) := by
 obtain ⟨n0, n1, n2, n3, n4, n5, e0, hp⟩ := sadd_tells p0 p1 p2 p3 p4 p5 0 0 0 0 0 0
 obtain ⟨kx, hx⟩ := vfits_tells x0 x1 x2
 obtain ⟨y, e1, hs⟩ := sub_tells z x0
 obtain ⟨sp, e2, ha⟩ := add_tells p0 n
 have HP := am hp
 have HX := am hx
 have HS := am hs
 have HA := am ha
 clear hp hx hs ha
 by_cases h0 : e0 = 0
 ·
  subst h0
  cases kx with
  | false =>
   refine ⟨0, 0, 1, fun w hG => ?_⟩
   have HG := am hG
   clear hG
   unfold vec at HX ⊢
   unfold sym at HP ⊢
   unfold Ch.two at HS HA
   go_enter Tryz.func72, Tryz.ntmps72
   go_upto_region 1 with fail
   obtain ⟨x4, x5, hB⟩ := blocks2 w #[x0, x1, x2] #[p0, p1, p2, p3, p4, p5] 26 46
   generalize (w.alloc (.cells #[x0, x1, x2] 26)).alloc (.cells #[p0, p1, p2, p3, p4, p5] 46) = w1 at x4 x5 hB ⊢
   obtain ⟨b4, h4⟩ := e_x (w.heap.size)
   obtain ⟨b5, h5⟩ := e_x (w.heap.size + 1)
   rw [← h5, ← h4]
   rw [← h5] at x5
   rw [← h4] at x4
   have H4 := am x4
   have H5 := am x5
   have HB := am hB
   clear x4 x5 hB h4 h5
   have y50 := b_l H5 0 rfl
   have y51 := b_l H5 1 rfl
   have y52 := b_l H5 2 rfl
   have y53 := b_l H5 3 rfl
   have y54 := b_l H5 4 rfl
   have y55 := b_l H5 5 rfl
   go_wp2_with fail
   refine (HP.out w1 (HG.out.below HB.out)).mono ?_
   rintro e w2 ⟨rfl, hb⟩
   clear y50 y51 y52 y53 y54 y55
   go_upto_region 2 with fail
   replace H4 := am (blk_alloc (blk_below H4.out hb) (.cells #[n0, n1, n2, n3, n4, n5] 46))
   replace H5 := am (blk_alloc (blk_below H5.out hb) (.cells #[n0, n1, n2, n3, n4, n5] 46))
   replace HB := am (below_alloc (below_step HB.out hb) (.cells #[n0, n1, n2, n3, n4, n5] 46))
   clear hb
   generalize w2.alloc (.cells #[n0, n1, n2, n3, n4, n5] 46) = w3 at H4 H5 HB ⊢
   generalize w2.heap.size = b11
   have y40 := b_l H4 0 rfl
   have y41 := b_l H4 1 rfl
   have y42 := b_l H4 2 rfl
   have y50 := b_l H5 0 rfl
   go_wp2_with fail
   refine (HX.out w3 (HG.out.below HB.out)).mono ?_
   rintro e w4 ⟨rfl, hb⟩
   clear y40 y41 y42 y50
   replace H4 := b_b H4 hb
   replace H5 := b_b H5 hb
   replace HB := b_s HB hb
   clear hb
   have y40 := b_l H4 0 rfl
   have y50 := b_l H5 0 rfl
   go_wp2_with fail
   refine bodyPost_ret (results_tmp3 rfl _ _ _) rfl ?_
   exact ⟨rfl, HB.out⟩
  | true =>
   cases hz : fits z with
   | false =>
    have HZ := am hz
    clear hz
    refine ⟨0, 0, 1, fun w hG => ?_⟩
    have HG := am hG
    clear hG
    unfold vec at HX ⊢
    unfold sym at HP ⊢
    unfold Ch.two at HS HA
    go_enter Tryz.func72, Tryz.ntmps72
    go_upto_region 1 with fail
    obtain ⟨x4, x5, hB⟩ := blocks2 w #[x0, x1, x2] #[p0, p1, p2, p3, p4, p5] 26 46
    generalize (w.alloc (.cells #[x0, x1, x2] 26)).alloc (.cells #[p0, p1, p2, p3, p4, p5] 46) = w1 at x4 x5 hB ⊢
    obtain ⟨b4, h4⟩ := e_x (w.heap.size)
    obtain ⟨b5, h5⟩ := e_x (w.heap.size + 1)
    rw [← h5, ← h4]
    rw [← h5] at x5
    rw [← h4] at x4
    have H4 := am x4
    have H5 := am x5
    have HB := am hB
    clear x4 x5 hB h4 h5
    have y50 := b_l H5 0 rfl
    have y51 := b_l H5 1 rfl
    have y52 := b_l H5 2 rfl
    have y53 := b_l H5 3 rfl
    have y54 := b_l H5 4 rfl
    have y55 := b_l H5 5 rfl
    go_wp2_with fail
    refine (HP.out w1 (HG.out.below HB.out)).mono ?_
    rintro e w2 ⟨rfl, hb⟩
    clear y50 y51 y52 y53 y54 y55
    go_upto_region 2 with fail
    replace H4 := am (blk_alloc (blk_below H4.out hb) (.cells #[n0, n1, n2, n3, n4, n5] 46))
    replace H5 := am (blk_alloc (blk_below H5.out hb) (.cells #[n0, n1, n2, n3, n4, n5] 46))
    replace HB := am (below_alloc (below_step HB.out hb) (.cells #[n0, n1, n2, n3, n4, n5] 46))
    clear hb
    generalize w2.alloc (.cells #[n0, n1, n2, n3, n4, n5] 46) = w3 at H4 H5 HB ⊢
    generalize w2.heap.size = b11
    have y40 := b_l H4 0 rfl
    have y41 := b_l H4 1 rfl
    have y42 := b_l H4 2 rfl
    have y50 := b_l H5 0 rfl
    go_wp2_with fail
    refine (HX.out w3 (HG.out.below HB.out)).mono ?_
    rintro e w4 ⟨rfl, hb⟩
    clear y40 y41 y42 y50
    replace H4 := b_b H4 hb
    replace H5 := b_b H5 hb
    replace HB := b_s HB hb
    clear hb
    have y40 := b_l H4 0 rfl
    have y50 := b_l H5 0 rfl
    go_wp2_with fail
    refine (fits_any w4 z).mono ?_
    rintro e w5 ⟨rfl, rfl⟩
    rw [HZ.out]
    go_wp2_with fail
    refine bodyPost_ret (results_tmp3 rfl _ _ _) rfl ?_
    exact ⟨rfl, HB.out⟩
   | true =>
    have HZ := am hz
    clear hz
    cases hn : fits n with
    | false =>
     have HN := am hn
     clear hn
     refine ⟨0, 0, 1, fun w hG => ?_⟩
     have HG := am hG
     clear hG
     unfold vec at HX ⊢
     unfold sym at HP ⊢
     unfold Ch.two at HS HA
     go_enter Tryz.func72, Tryz.ntmps72
     go_upto_region 1 with fail
     obtain ⟨x4, x5, hB⟩ := blocks2 w #[x0, x1, x2] #[p0, p1, p2, p3, p4, p5] 26 46
     generalize (w.alloc (.cells #[x0, x1, x2] 26)).alloc (.cells #[p0, p1, p2, p3, p4, p5] 46) = w1 at x4 x5 hB ⊢
     obtain ⟨b4, h4⟩ := e_x (w.heap.size)
     obtain ⟨b5, h5⟩ := e_x (w.heap.size + 1)
     rw [← h5, ← h4]
     rw [← h5] at x5
     rw [← h4] at x4
     have H4 := am x4
     have H5 := am x5
     have HB := am hB
     clear x4 x5 hB h4 h5
     have y50 := b_l H5 0 rfl
     have y51 := b_l H5 1 rfl
     have y52 := b_l H5 2 rfl
     have y53 := b_l H5 3 rfl
     have y54 := b_l H5 4 rfl
     have y55 := b_l H5 5 rfl
     go_wp2_with fail
     refine (HP.out w1 (HG.out.below HB.out)).mono ?_
     rintro e w2 ⟨rfl, hb⟩
     clear y50 y51 y52 y53 y54 y55
     go_upto_region 2 with fail
     replace H4 := am (blk_alloc (blk_below H4.out hb) (.cells #[n0, n1, n2, n3, n4, n5] 46))
     replace H5 := am (blk_alloc (blk_below H5.out hb) (.cells #[n0, n1, n2, n3, n4, n5] 46))
     replace HB := am (below_alloc (below_step HB.out hb) (.cells #[n0, n1, n2, n3, n4, n5] 46))
     clear hb
     generalize w2.alloc (.cells #[n0, n1, n2, n3, n4, n5] 46) = w3 at H4 H5 HB ⊢
     generalize w2.heap.size = b11
     have y40 := b_l H4 0 rfl
     have y41 := b_l H4 1 rfl
     have y42 := b_l H4 2 rfl
     have y50 := b_l H5 0 rfl
     go_wp2_with fail
     refine (HX.out w3 (HG.out.below HB.out)).mono ?_
     rintro e w4 ⟨rfl, hb⟩
     clear y40 y41 y42 y50
     replace H4 := b_b H4 hb
     replace H5 := b_b H5 hb
     replace HB := b_s HB hb
     clear hb
     have y40 := b_l H4 0 rfl
     have y50 := b_l H5 0 rfl
     go_wp2_with fail
     refine (fits_any w4 z).mono ?_
     rintro e w5 ⟨rfl, rfl⟩
     rw [HZ.out]
     go_wp2_with fail
     refine (fits_any _ n).mono ?_
     rintro e w6 ⟨rfl, rfl⟩
     rw [HN.out]
     go_wp2_with fail
     refine bodyPost_ret (results_tmp3 rfl _ _ _) rfl ?_
     exact ⟨rfl, HB.out⟩
    | true =>
     have HN := am hn
     clear hn
     by_cases h1 : n < 1
     ·
      have d1 : decide (n < 1) = true := decide_eq_true h1
      refine ⟨0, 0, 1, fun w hG => ?_⟩
      have HG := am hG
      clear hG
      unfold vec at HX ⊢
      unfold sym at HP ⊢
      unfold Ch.two at HS HA
      go_enter Tryz.func72, Tryz.ntmps72
      go_upto_region 1 with fail
      obtain ⟨x4, x5, hB⟩ := blocks2 w #[x0, x1, x2] #[p0, p1, p2, p3, p4, p5] 26 46
      generalize (w.alloc (.cells #[x0, x1, x2] 26)).alloc (.cells #[p0, p1, p2, p3, p4, p5] 46) = w1 at x4 x5 hB ⊢
      obtain ⟨b4, h4⟩ := e_x (w.heap.size)
      obtain ⟨b5, h5⟩ := e_x (w.heap.size + 1)
      rw [← h5, ← h4]
      rw [← h5] at x5
      rw [← h4] at x4
      have H4 := am x4
      have H5 := am x5
      have HB := am hB
      clear x4 x5 hB h4 h5
      have y50 := b_l H5 0 rfl
      have y51 := b_l H5 1 rfl
      have y52 := b_l H5 2 rfl
      have y53 := b_l H5 3 rfl
      have y54 := b_l H5 4 rfl
      have y55 := b_l H5 5 rfl
      go_wp2_with fail
      refine (HP.out w1 (HG.out.below HB.out)).mono ?_
      rintro e w2 ⟨rfl, hb⟩
      clear y50 y51 y52 y53 y54 y55
      go_upto_region 2 with fail
      replace H4 := am (blk_alloc (blk_below H4.out hb) (.cells #[n0, n1, n2, n3, n4, n5] 46))
      replace H5 := am (blk_alloc (blk_below H5.out hb) (.cells #[n0, n1, n2, n3, n4, n5] 46))
      replace HB := am (below_alloc (below_step HB.out hb) (.cells #[n0, n1, n2, n3, n4, n5] 46))
      clear hb
      generalize w2.alloc (.cells #[n0, n1, n2, n3, n4, n5] 46) = w3 at H4 H5 HB ⊢
      generalize w2.heap.size = b11
      have y40 := b_l H4 0 rfl
      have y41 := b_l H4 1 rfl
      have y42 := b_l H4 2 rfl
      have y50 := b_l H5 0 rfl
      go_wp2_with fail
      refine (HX.out w3 (HG.out.below HB.out)).mono ?_
      rintro e w4 ⟨rfl, hb⟩
      clear y40 y41 y42 y50
      replace H4 := b_b H4 hb
      replace H5 := b_b H5 hb
      replace HB := b_s HB hb
      clear hb
      have y40 := b_l H4 0 rfl
      have y50 := b_l H5 0 rfl
      go_wp2_with fail
      refine (fits_any w4 z).mono ?_
      rintro e w5 ⟨rfl, rfl⟩
      rw [HZ.out]
      go_wp2_with fail
      refine (fits_any _ n).mono ?_
      rintro e w6 ⟨rfl, rfl⟩
      rw [HN.out]
      go_wp2_with fail
      refine bodyPost_ret (results_tmp3 rfl _ _ _) rfl ?_
      exact ⟨rfl, HB.out⟩
     have d1 : decide (n < 1) = false := decide_eq_false h1
     by_cases h2 : p0 < 0
     ·
      have d2 : decide (p0 < 0) = true := decide_eq_true h2
      refine ⟨0, 0, 1, fun w hG => ?_⟩
      have HG := am hG
      clear hG
      unfold vec at HX ⊢
      unfold sym at HP ⊢
      unfold Ch.two at HS HA
      go_enter Tryz.func72, Tryz.ntmps72
      go_upto_region 1 with fail
      obtain ⟨x4, x5, hB⟩ := blocks2 w #[x0, x1, x2] #[p0, p1, p2, p3, p4, p5] 26 46
      generalize (w.alloc (.cells #[x0, x1, x2] 26)).alloc (.cells #[p0, p1, p2, p3, p4, p5] 46) = w1 at x4 x5 hB ⊢
      obtain ⟨b4, h4⟩ := e_x (w.heap.size)
      obtain ⟨b5, h5⟩ := e_x (w.heap.size + 1)
      rw [← h5, ← h4]
      rw [← h5] at x5
      rw [← h4] at x4
      have H4 := am x4
      have H5 := am x5
      have HB := am hB
      clear x4 x5 hB h4 h5
      have y50 := b_l H5 0 rfl
      have y51 := b_l H5 1 rfl
      have y52 := b_l H5 2 rfl
      have y53 := b_l H5 3 rfl
      have y54 := b_l H5 4 rfl
      have y55 := b_l H5 5 rfl
      go_wp2_with fail
      refine (HP.out w1 (HG.out.below HB.out)).mono ?_
      rintro e w2 ⟨rfl, hb⟩
      clear y50 y51 y52 y53 y54 y55
      go_upto_region 2 with fail
      replace H4 := am (blk_alloc (blk_below H4.out hb) (.cells #[n0, n1, n2, n3, n4, n5] 46))
      replace H5 := am (blk_alloc (blk_below H5.out hb) (.cells #[n0, n1, n2, n3, n4, n5] 46))
      replace HB := am (below_alloc (below_step HB.out hb) (.cells #[n0, n1, n2, n3, n4, n5] 46))
      clear hb
      generalize w2.alloc (.cells #[n0, n1, n2, n3, n4, n5] 46) = w3 at H4 H5 HB ⊢
      generalize w2.heap.size = b11
      have y40 := b_l H4 0 rfl
      have y41 := b_l H4 1 rfl
      have y42 := b_l H4 2 rfl
      have y50 := b_l H5 0 rfl
      go_wp2_with fail
      refine (HX.out w3 (HG.out.below HB.out)).mono ?_
      rintro e w4 ⟨rfl, hb⟩
      clear y40 y41 y42 y50
      replace H4 := b_b H4 hb
      replace H5 := b_b H5 hb
      replace HB := b_s HB hb
      clear hb
      have y40 := b_l H4 0 rfl
      have y50 := b_l H5 0 rfl
      go_wp2_with fail
      refine (fits_any w4 z).mono ?_
      rintro e w5 ⟨rfl, rfl⟩
      rw [HZ.out]
      go_wp2_with fail
      refine (fits_any _ n).mono ?_
      rintro e w6 ⟨rfl, rfl⟩
      rw [HN.out]
      go_wp2_with fail
      refine bodyPost_ret (results_tmp3 rfl _ _ _) rfl ?_
      exact ⟨rfl, HB.out⟩
     have d2 : decide (p0 < 0) = false := decide_eq_false h2
     by_cases h3 : e1 = 0
     ·
      subst h3
      by_cases h4 : e2 = 0
      ·
       subst h4
       refine ⟨y, sp, 0, fun w hG => ?_⟩
       have HG := am hG
       clear hG
       unfold vec at HX ⊢
       unfold sym at HP ⊢
       unfold Ch.two at HS HA
       go_enter Tryz.func72, Tryz.ntmps72
       go_upto_region 1 with fail
       obtain ⟨x4, x5, hB⟩ := blocks2 w #[x0, x1, x2] #[p0, p1, p2, p3, p4, p5] 26 46
       generalize (w.alloc (.cells #[x0, x1, x2] 26)).alloc (.cells #[p0, p1, p2, p3, p4, p5] 46) = w1 at x4 x5 hB ⊢
       obtain ⟨b4, h4⟩ := e_x (w.heap.size)
       obtain ⟨b5, h5⟩ := e_x (w.heap.size + 1)
       rw [← h5, ← h4]
       rw [← h5] at x5
       rw [← h4] at x4
       have H4 := am x4
       have H5 := am x5
       have HB := am hB
       clear x4 x5 hB h4 h5
       have y50 := b_l H5 0 rfl
       have y51 := b_l H5 1 rfl
       have y52 := b_l H5 2 rfl
       have y53 := b_l H5 3 rfl
       have y54 := b_l H5 4 rfl
       have y55 := b_l H5 5 rfl
       go_wp2_with fail
       refine (HP.out w1 (HG.out.below HB.out)).mono ?_
       rintro e w2 ⟨rfl, hb⟩
       clear y50 y51 y52 y53 y54 y55
       go_upto_region 2 with fail
       replace H4 := am (blk_alloc (blk_below H4.out hb) (.cells #[n0, n1, n2, n3, n4, n5] 46))
       replace H5 := am (blk_alloc (blk_below H5.out hb) (.cells #[n0, n1, n2, n3, n4, n5] 46))
       replace HB := am (below_alloc (below_step HB.out hb) (.cells #[n0, n1, n2, n3, n4, n5] 46))
       clear hb
       generalize w2.alloc (.cells #[n0, n1, n2, n3, n4, n5] 46) = w3 at H4 H5 HB ⊢
       generalize w2.heap.size = b11
       have y40 := b_l H4 0 rfl
       have y41 := b_l H4 1 rfl
       have y42 := b_l H4 2 rfl
       have y50 := b_l H5 0 rfl
       go_wp2_with fail
       refine (HX.out w3 (HG.out.below HB.out)).mono ?_
       rintro e w4 ⟨rfl, hb⟩
       clear y40 y41 y42 y50
       replace H4 := b_b H4 hb
       replace H5 := b_b H5 hb
       replace HB := b_s HB hb
       clear hb
       have y40 := b_l H4 0 rfl
       have y50 := b_l H5 0 rfl
       go_wp2_with fail
       refine (fits_any w4 z).mono ?_
       rintro e w5 ⟨rfl, rfl⟩
       rw [HZ.out]
       go_wp2_with fail
       refine (fits_any _ n).mono ?_
       rintro e w6 ⟨rfl, rfl⟩
       rw [HN.out]
       go_wp2_with fail
       refine (HS.out _ (HG.out.below HB.out)).mono ?_
       rintro e w7 ⟨rfl, hb⟩
       clear y40 y50
       replace H4 := b_b H4 hb
       replace H5 := b_b H5 hb
       replace HB := b_s HB hb
       clear hb
       have y50 := b_l H5 0 rfl
       go_wp2_with fail
       refine (HA.out w7 (HG.out.below HB.out)).mono ?_
       rintro e w8 ⟨rfl, hb⟩
       clear y50
       replace H4 := b_b H4 hb
       replace H5 := b_b H5 hb
       replace HB := b_s HB hb
       clear hb
       go_wp2_with fail
       refine bodyPost_ret (results_tmp3 rfl _ _ _) rfl ?_
       exact ⟨rfl, HB.out⟩
      have q1 : (e2 == 0) = false := by simp [h4]
      have q2 : decide (e2 = 0) = false := decide_eq_false h4
      refine ⟨0, 0, e2, fun w hG => ?_⟩
      have HG := am hG
      clear hG
      unfold vec at HX ⊢
      unfold sym at HP ⊢
      unfold Ch.two at HS HA
      go_enter Tryz.func72, Tryz.ntmps72
      go_upto_region 1 with fail
      obtain ⟨x4, x5, hB⟩ := blocks2 w #[x0, x1, x2] #[p0, p1, p2, p3, p4, p5] 26 46
      generalize (w.alloc (.cells #[x0, x1, x2] 26)).alloc (.cells #[p0, p1, p2, p3, p4, p5] 46) = w1 at x4 x5 hB ⊢
      obtain ⟨b4, h4⟩ := e_x (w.heap.size)
      obtain ⟨b5, h5⟩ := e_x (w.heap.size + 1)
      rw [← h5, ← h4]
      rw [← h5] at x5
      rw [← h4] at x4
      have H4 := am x4
      have H5 := am x5
      have HB := am hB
      clear x4 x5 hB h4 h5
      have y50 := b_l H5 0 rfl
      have y51 := b_l H5 1 rfl
      have y52 := b_l H5 2 rfl
      have y53 := b_l H5 3 rfl
      have y54 := b_l H5 4 rfl
      have y55 := b_l H5 5 rfl
      go_wp2_with fail
      refine (HP.out w1 (HG.out.below HB.out)).mono ?_
      rintro e w2 ⟨rfl, hb⟩
      clear y50 y51 y52 y53 y54 y55
      go_upto_region 2 with fail
      replace H4 := am (blk_alloc (blk_below H4.out hb) (.cells #[n0, n1, n2, n3, n4, n5] 46))
      replace H5 := am (blk_alloc (blk_below H5.out hb) (.cells #[n0, n1, n2, n3, n4, n5] 46))
      replace HB := am (below_alloc (below_step HB.out hb) (.cells #[n0, n1, n2, n3, n4, n5] 46))
      clear hb
      generalize w2.alloc (.cells #[n0, n1, n2, n3, n4, n5] 46) = w3 at H4 H5 HB ⊢
      generalize w2.heap.size = b11
      have y40 := b_l H4 0 rfl
      have y41 := b_l H4 1 rfl
      have y42 := b_l H4 2 rfl
      have y50 := b_l H5 0 rfl
      go_wp2_with fail
      refine (HX.out w3 (HG.out.below HB.out)).mono ?_
      rintro e w4 ⟨rfl, hb⟩
      clear y40 y41 y42 y50
      replace H4 := b_b H4 hb
      replace H5 := b_b H5 hb
      replace HB := b_s HB hb
      clear hb
      have y40 := b_l H4 0 rfl
      have y50 := b_l H5 0 rfl
      go_wp2_with fail
      refine (fits_any w4 z).mono ?_
      rintro e w5 ⟨rfl, rfl⟩
      rw [HZ.out]
      go_wp2_with fail
      refine (fits_any _ n).mono ?_
      rintro e w6 ⟨rfl, rfl⟩
      rw [HN.out]
      go_wp2_with fail
      refine (HS.out _ (HG.out.below HB.out)).mono ?_
      rintro e w7 ⟨rfl, hb⟩
      clear y40 y50
      replace H4 := b_b H4 hb
      replace H5 := b_b H5 hb
      replace HB := b_s HB hb
      clear hb
      have y50 := b_l H5 0 rfl
      go_wp2_with fail
      refine (HA.out w7 (HG.out.below HB.out)).mono ?_
      rintro e w8 ⟨rfl, hb⟩
      clear y50
      replace H4 := b_b H4 hb
      replace H5 := b_b H5 hb
      replace HB := b_s HB hb
      clear hb
      go_wp2_with fail
      refine bodyPost_ret (results_tmp3 rfl _ _ _) rfl ?_
      exact ⟨rfl, HB.out⟩
     have q1 : (e1 == 0) = false := by simp [h3]
     have q2 : decide (e1 = 0) = false := decide_eq_false h3
     refine ⟨0, 0, e1, fun w hG => ?_⟩
     have HG := am hG
     clear hG
     unfold vec at HX ⊢
     unfold sym at HP ⊢
     unfold Ch.two at HS HA
     go_enter Tryz.func72, Tryz.ntmps72
     go_upto_region 1 with fail
     obtain ⟨x4, x5, hB⟩ := blocks2 w #[x0, x1, x2] #[p0, p1, p2, p3, p4, p5] 26 46
     generalize (w.alloc (.cells #[x0, x1, x2] 26)).alloc (.cells #[p0, p1, p2, p3, p4, p5] 46) = w1 at x4 x5 hB ⊢
     obtain ⟨b4, h4⟩ := e_x (w.heap.size)
     obtain ⟨b5, h5⟩ := e_x (w.heap.size + 1)
     rw [← h5, ← h4]
     rw [← h5] at x5
     rw [← h4] at x4
     have H4 := am x4
     have H5 := am x5
     have HB := am hB
     clear x4 x5 hB h4 h5
     have y50 := b_l H5 0 rfl
     have y51 := b_l H5 1 rfl
     have y52 := b_l H5 2 rfl
     have y53 := b_l H5 3 rfl
     have y54 := b_l H5 4 rfl
     have y55 := b_l H5 5 rfl
     go_wp2_with fail
     refine (HP.out w1 (HG.out.below HB.out)).mono ?_
     rintro e w2 ⟨rfl, hb⟩
     clear y50 y51 y52 y53 y54 y55
     go_upto_region 2 with fail
     replace H4 := am (blk_alloc (blk_below H4.out hb) (.cells #[n0, n1, n2, n3, n4, n5] 46))
     replace H5 := am (blk_alloc (blk_below H5.out hb) (.cells #[n0, n1, n2, n3, n4, n5] 46))
     replace HB := am (below_alloc (below_step HB.out hb) (.cells #[n0, n1, n2, n3, n4, n5] 46))
     clear hb
     generalize w2.alloc (.cells #[n0, n1, n2, n3, n4, n5] 46) = w3 at H4 H5 HB ⊢
     generalize w2.heap.size = b11
     have y40 := b_l H4 0 rfl
     have y41 := b_l H4 1 rfl
     have y42 := b_l H4 2 rfl
     have y50 := b_l H5 0 rfl
     go_wp2_with fail
     refine (HX.out w3 (HG.out.below HB.out)).mono ?_
     rintro e w4 ⟨rfl, hb⟩
     clear y40 y41 y42 y50
     replace H4 := b_b H4 hb
     replace H5 := b_b H5 hb
     replace HB := b_s HB hb
     clear hb
     have y40 := b_l H4 0 rfl
     have y50 := b_l H5 0 rfl
     go_wp2_with fail
     refine (fits_any w4 z).mono ?_
     rintro e w5 ⟨rfl, rfl⟩
     rw [HZ.out]
     go_wp2_with fail
     refine (fits_any _ n).mono ?_
     rintro e w6 ⟨rfl, rfl⟩
     rw [HN.out]
     go_wp2_with fail
     refine (HS.out _ (HG.out.below HB.out)).mono ?_
     rintro e w7 ⟨rfl, hb⟩
     clear y40 y50
     replace H4 := b_b H4 hb
     replace H5 := b_b H5 hb
     replace HB := b_s HB hb
     clear hb
     have y50 := b_l H5 0 rfl
     go_wp2_with fail
     refine bodyPost_ret (results_tmp3 rfl _ _ _) rfl ?_
     exact ⟨rfl, HB.out⟩
 have q1 : (e0 == 0) = false := by simp [h0]
 have q2 : decide (e0 = 0) = false := decide_eq_false h0
 refine ⟨0, 0, 1, fun w hG => ?_⟩
 have HG := am hG
 clear hG
 unfold vec at HX ⊢
 unfold sym at HP ⊢
 unfold Ch.two at HS HA
 go_enter Tryz.func72, Tryz.ntmps72
 go_upto_region 1 with fail
 obtain ⟨x4, x5, hB⟩ := blocks2 w #[x0, x1, x2] #[p0, p1, p2, p3, p4, p5] 26 46
 generalize (w.alloc (.cells #[x0, x1, x2] 26)).alloc (.cells #[p0, p1, p2, p3, p4, p5] 46) = w1 at x4 x5 hB ⊢
 obtain ⟨b4, h4⟩ := e_x (w.heap.size)
 obtain ⟨b5, h5⟩ := e_x (w.heap.size + 1)
 rw [← h5, ← h4]
 rw [← h5] at x5
 rw [← h4] at x4
 have H4 := am x4
 have H5 := am x5
 have HB := am hB
 clear x4 x5 hB h4 h5
 have y50 := b_l H5 0 rfl
 have y51 := b_l H5 1 rfl
 have y52 := b_l H5 2 rfl
 have y53 := b_l H5 3 rfl
 have y54 := b_l H5 4 rfl
 have y55 := b_l H5 5 rfl
 go_wp2_with fail
 refine (HP.out w1 (HG.out.below HB.out)).mono ?_
 rintro e w2 ⟨rfl, hb⟩
 clear y50 y51 y52 y53 y54 y55
 go_upto_region 2 with fail
 replace H4 := am (blk_alloc (blk_below H4.out hb) (.cells #[n0, n1, n2, n3, n4, n5] 46))
 replace H5 := am (blk_alloc (blk_below H5.out hb) (.cells #[n0, n1, n2, n3, n4, n5] 46))
 replace HB := am (below_alloc (below_step HB.out hb) (.cells #[n0, n1, n2, n3, n4, n5] 46))
 clear hb
 generalize w2.alloc (.cells #[n0, n1, n2, n3, n4, n5] 46) = w3 at H4 H5 HB ⊢
 generalize w2.heap.size = b11
 have y40 := b_l H4 0 rfl
 have y41 := b_l H4 1 rfl
 have y42 := b_l H4 2 rfl
 have y50 := b_l H5 0 rfl
 go_wp2_with fail
 refine bodyPost_ret (results_tmp3 rfl _ _ _) rfl ?_
 exact ⟨rfl, HB.out⟩
end Go.Proofs.YtpdahkgandaabaaGreatDoor.Ch
