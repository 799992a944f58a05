/- A part of the proof of the law TopNone of the top, where the package's tables hold what their initialisers lay. -/
import Derived.Test.YtpdahkgandaabaaGreatDoorS01
import Derived.Test.YtpdahkgandaabaaGreatDoorS08
namespace Go.Proofs.YtpdahkgandaabaaGreatDoor.Ch
open Go.RowKit Go.Proofs.YtpdahkgandaabaaGreatDoorW.PrintWords Go.Proofs.YtpdahkgandaabaaGreatDoorW.PrintLast Go.Proofs.YtpdahkgandaabaaGreatDoorW.PrintMore Go.Proofs.YtpdahkgandaabaaGreatDoor.PTopNames Go.Proofs.YtpdahkgandaabaaGreatDoor.Al
set_option linter.unusedVariables false
set_option linter.unusedSimpArgs false
def SV (m0 m1 m2 m3 m4 m5 s0 s1 s2 s3 s4 s5 k : Int) : Array Value := #[.int .i64 (if 1 ≤ k then s0 else m0), .int .i64 (if 2 ≤ k then s1 else m1), .int .i64 (if 3 ≤ k then s2 else m2), .int .i64 (if 4 ≤ k then s3 else m3), .int .i64 (if 5 ≤ k then s4 else m4), .int .i64 (if 6 ≤ k then s5 else m5)]
set_option maxRecDepth 100000 in
set_option maxHeartbeats 4000000 in
theorem sadd_tells (m0 m1 m2 m3 m4 m5 c0 c1 c2 c3 c4 c5 : Int) : ∃ r0 r1 r2 r3 r4 r5 e, Tells 100 #[sym m0 m1 m2 m3 m4 m5, sym c0 c1 c2 c3 c4 c5] (.tuple #[sym r0 r1 r2 r3 r4 r5, .int .i64 e]) := by
 obtain ⟨s0, hs0⟩ : ∃ s, s = wrap64 (m0 + c0) := ⟨_, rfl⟩
 have HS0 := am hs0.symm
 obtain ⟨s1, hs1⟩ : ∃ s, s = wrap64 (m1 + c1) := ⟨_, rfl⟩
 have HS1 := am hs1.symm
 obtain ⟨s2, hs2⟩ : ∃ s, s = wrap64 (m2 + c2) := ⟨_, rfl⟩
 have HS2 := am hs2.symm
 obtain ⟨s3, hs3⟩ : ∃ s, s = wrap64 (m3 + c3) := ⟨_, rfl⟩
 have HS3 := am hs3.symm
 obtain ⟨s4, hs4⟩ : ∃ s, s = wrap64 (m4 + c4) := ⟨_, rfl⟩
 have HS4 := am hs4.symm
 obtain ⟨s5, hs5⟩ : ∃ s, s = wrap64 (m5 + c5) := ⟨_, rfl⟩
 have HS5 := am hs5.symm
 obtain ⟨km, hm⟩ : ∃ k, Tells 136 #[sym m0 m1 m2 m3 m4 m5] (.bool k) := ⟨_, sfits_tells _ _ _ _ _ _⟩
 obtain ⟨kc, hc⟩ : ∃ k, Tells 136 #[sym c0 c1 c2 c3 c4 c5] (.bool k) := ⟨_, sfits_tells _ _ _ _ _ _⟩
 obtain ⟨ks, hss⟩ : ∃ k, Tells 136 #[sym s0 s1 s2 s3 s4 s5] (.bool k) := ⟨_, sfits_tells _ _ _ _ _ _⟩
 have HFM := am hm
 have HFC := am hc
 have HFS := am hss
 clear hm hc hss hs0 hs1 hs2 hs3 hs4 hs5
 unfold sym at HFS
 cases km with
 | false =>
  refine ⟨0, 0, 0, 0, 0, 0, 1, fun w hG => ?_⟩
  have HG := am hG
  clear hG
  unfold sym at HFM HFC ⊢
  go_enter Tryz.func100, Tryz.ntmps100
  go_upto_region 1 with fail
  obtain ⟨x2, x3, x4, hB⟩ := blocks3 w #[.int .i64 m0, .int .i64 m1, .int .i64 m2, .int .i64 m3, .int .i64 m4, .int .i64 m5] #[.int .i64 c0, .int .i64 c1, .int .i64 c2, .int .i64 c3, .int .i64 c4, .int .i64 c5] #[.int .i64 0, .int .i64 0, .int .i64 0, .int .i64 0, .int .i64 0, .int .i64 0] 46 46 46
  generalize ((w.alloc (.cells #[.int .i64 m0, .int .i64 m1, .int .i64 m2, .int .i64 m3, .int .i64 m4, .int .i64 m5] 46)).alloc (.cells #[.int .i64 c0, .int .i64 c1, .int .i64 c2, .int .i64 c3, .int .i64 c4, .int .i64 c5] 46)).alloc (.cells #[.int .i64 0, .int .i64 0, .int .i64 0, .int .i64 0, .int .i64 0, .int .i64 0] 46) = w1 at x2 x3 x4 hB ⊢
  obtain ⟨b2, h2⟩ : ∃ b, b = w.heap.size := ⟨_, rfl⟩
  obtain ⟨b3, h3⟩ : ∃ b, b = w.heap.size + 1 := ⟨_, rfl⟩
  obtain ⟨b4, h4⟩ : ∃ b, b = w.heap.size + 1 + 1 := ⟨_, rfl⟩
  have g2 : w.heap.size ≤ b2 := by omega
  have g4 : w.heap.size ≤ b4 := by omega
  have n32 : b3 ≠ b2 := by omega
  have n42 : b4 ≠ b2 := by omega
  rw [← h4, ← h3, ← h2]
  rw [← h4] at x4
  rw [← h3] at x3
  rw [← h2] at x2
  have H2 := am x2
  have H3 := am x3
  have H4 := am x4
  have HB := am hB
  clear x2 x3 x4 hB h2 h3 h4
  have y20 := bcv H2.out 0 (.int .i64 m0) rfl
  have y21 := bcv H2.out 1 (.int .i64 m1) rfl
  have y22 := bcv H2.out 2 (.int .i64 m2) rfl
  have y23 := bcv H2.out 3 (.int .i64 m3) rfl
  have y24 := bcv H2.out 4 (.int .i64 m4) rfl
  have y25 := bcv H2.out 5 (.int .i64 m5) rfl
  go_wp2_with fail
  refine (HFM.out w1 (HG.out.below HB.out)).mono ?_
  rintro e w2 ⟨rfl, hb⟩
  clear y20 y21 y22 y23 y24 y25
  replace H2 := am (blk_below H2.out hb)
  replace H3 := am (blk_below H3.out hb)
  replace H4 := am (blk_below H4.out hb)
  replace HB := am (below_step HB.out hb)
  clear hb
  have y40 := bcv H4.out 0 (.int .i64 0) rfl
  have f40 := bfz H4.out 0
  have y41 := bcv H4.out 1 (.int .i64 0) rfl
  have f41 := bfz H4.out 1
  have y42 := bcv H4.out 2 (.int .i64 0) rfl
  have f42 := bfz H4.out 2
  have y43 := bcv H4.out 3 (.int .i64 0) rfl
  have f43 := bfz H4.out 3
  have y44 := bcv H4.out 4 (.int .i64 0) rfl
  have f44 := bfz H4.out 4
  have y45 := bcv H4.out 5 (.int .i64 0) rfl
  have f45 := bfz H4.out 5
  go_wp2_with fail
  obtain ⟨q, qb⟩ := six_set rfl H4.out g4 HB.out (.int .i64 0) (.int .i64 0) (.int .i64 0) (.int .i64 0) (.int .i64 0) (.int .i64 0)
  exact bodyPost_ret (results_ct rfl _ _ b4 46 _ (0, 0) _ rfl q Tryz.underlying46 rfl (by kernel_rfl)) rfl ⟨rfl, qb⟩
 | true =>
  cases kc with
  | false =>
   refine ⟨0, 0, 0, 0, 0, 0, 1, fun w hG => ?_⟩
   have HG := am hG
   clear hG
   unfold sym at HFM HFC ⊢
   go_enter Tryz.func100, Tryz.ntmps100
   go_upto_region 1 with fail
   obtain ⟨x2, x3, x4, hB⟩ := blocks3 w #[.int .i64 m0, .int .i64 m1, .int .i64 m2, .int .i64 m3, .int .i64 m4, .int .i64 m5] #[.int .i64 c0, .int .i64 c1, .int .i64 c2, .int .i64 c3, .int .i64 c4, .int .i64 c5] #[.int .i64 0, .int .i64 0, .int .i64 0, .int .i64 0, .int .i64 0, .int .i64 0] 46 46 46
   generalize ((w.alloc (.cells #[.int .i64 m0, .int .i64 m1, .int .i64 m2, .int .i64 m3, .int .i64 m4, .int .i64 m5] 46)).alloc (.cells #[.int .i64 c0, .int .i64 c1, .int .i64 c2, .int .i64 c3, .int .i64 c4, .int .i64 c5] 46)).alloc (.cells #[.int .i64 0, .int .i64 0, .int .i64 0, .int .i64 0, .int .i64 0, .int .i64 0] 46) = w1 at x2 x3 x4 hB ⊢
   obtain ⟨b2, h2⟩ : ∃ b, b = w.heap.size := ⟨_, rfl⟩
   obtain ⟨b3, h3⟩ : ∃ b, b = w.heap.size + 1 := ⟨_, rfl⟩
   obtain ⟨b4, h4⟩ : ∃ b, b = w.heap.size + 1 + 1 := ⟨_, rfl⟩
   have g2 : w.heap.size ≤ b2 := by omega
   have g4 : w.heap.size ≤ b4 := by omega
   have n32 : b3 ≠ b2 := by omega
   have n42 : b4 ≠ b2 := by omega
   rw [← h4, ← h3, ← h2]
   rw [← h4] at x4
   rw [← h3] at x3
   rw [← h2] at x2
   have H2 := am x2
   have H3 := am x3
   have H4 := am x4
   have HB := am hB
   clear x2 x3 x4 hB h2 h3 h4
   have y20 := bcv H2.out 0 (.int .i64 m0) rfl
   have y21 := bcv H2.out 1 (.int .i64 m1) rfl
   have y22 := bcv H2.out 2 (.int .i64 m2) rfl
   have y23 := bcv H2.out 3 (.int .i64 m3) rfl
   have y24 := bcv H2.out 4 (.int .i64 m4) rfl
   have y25 := bcv H2.out 5 (.int .i64 m5) rfl
   go_wp2_with fail
   refine (HFM.out w1 (HG.out.below HB.out)).mono ?_
   rintro e w2 ⟨rfl, hb⟩
   clear y20 y21 y22 y23 y24 y25
   replace H2 := am (blk_below H2.out hb)
   replace H3 := am (blk_below H3.out hb)
   replace H4 := am (blk_below H4.out hb)
   replace HB := am (below_step HB.out hb)
   clear hb
   have y30 := bcv H3.out 0 (.int .i64 c0) rfl
   have y31 := bcv H3.out 1 (.int .i64 c1) rfl
   have y32 := bcv H3.out 2 (.int .i64 c2) rfl
   have y33 := bcv H3.out 3 (.int .i64 c3) rfl
   have y34 := bcv H3.out 4 (.int .i64 c4) rfl
   have y35 := bcv H3.out 5 (.int .i64 c5) rfl
   go_wp2_with fail
   refine (HFC.out w2 (HG.out.below HB.out)).mono ?_
   rintro e w3 ⟨rfl, hb⟩
   clear y30 y31 y32 y33 y34 y35
   replace H2 := am (blk_below H2.out hb)
   replace H3 := am (blk_below H3.out hb)
   replace H4 := am (blk_below H4.out hb)
   replace HB := am (below_step HB.out hb)
   clear hb
   generalize w3 = w2 at H2 H3 H4 HB ⊢
   have y40 := bcv H4.out 0 (.int .i64 0) rfl
   have f40 := bfz H4.out 0
   have y41 := bcv H4.out 1 (.int .i64 0) rfl
   have f41 := bfz H4.out 1
   have y42 := bcv H4.out 2 (.int .i64 0) rfl
   have f42 := bfz H4.out 2
   have y43 := bcv H4.out 3 (.int .i64 0) rfl
   have f43 := bfz H4.out 3
   have y44 := bcv H4.out 4 (.int .i64 0) rfl
   have f44 := bfz H4.out 4
   have y45 := bcv H4.out 5 (.int .i64 0) rfl
   have f45 := bfz H4.out 5
   go_wp2_with fail
   obtain ⟨q, qb⟩ := six_set rfl H4.out g4 HB.out (.int .i64 0) (.int .i64 0) (.int .i64 0) (.int .i64 0) (.int .i64 0) (.int .i64 0)
   exact bodyPost_ret (results_ct rfl _ _ b4 46 _ (0, 0) _ rfl q Tryz.underlying46 rfl (by kernel_rfl)) rfl ⟨rfl, qb⟩
  | true =>
   cases ks with
   | false =>
    refine ⟨0, 0, 0, 0, 0, 0, 3, fun w hG => ?_⟩
    have HG := am hG
    clear hG
    unfold sym at HFM HFC ⊢
    go_enter Tryz.func100, Tryz.ntmps100
    go_upto_region 1 with fail
    obtain ⟨x2, x3, x4, hB⟩ := blocks3 w #[.int .i64 m0, .int .i64 m1, .int .i64 m2, .int .i64 m3, .int .i64 m4, .int .i64 m5] #[.int .i64 c0, .int .i64 c1, .int .i64 c2, .int .i64 c3, .int .i64 c4, .int .i64 c5] #[.int .i64 0, .int .i64 0, .int .i64 0, .int .i64 0, .int .i64 0, .int .i64 0] 46 46 46
    generalize ((w.alloc (.cells #[.int .i64 m0, .int .i64 m1, .int .i64 m2, .int .i64 m3, .int .i64 m4, .int .i64 m5] 46)).alloc (.cells #[.int .i64 c0, .int .i64 c1, .int .i64 c2, .int .i64 c3, .int .i64 c4, .int .i64 c5] 46)).alloc (.cells #[.int .i64 0, .int .i64 0, .int .i64 0, .int .i64 0, .int .i64 0, .int .i64 0] 46) = w1 at x2 x3 x4 hB ⊢
    obtain ⟨b2, h2⟩ : ∃ b, b = w.heap.size := ⟨_, rfl⟩
    obtain ⟨b3, h3⟩ : ∃ b, b = w.heap.size + 1 := ⟨_, rfl⟩
    obtain ⟨b4, h4⟩ : ∃ b, b = w.heap.size + 1 + 1 := ⟨_, rfl⟩
    have g2 : w.heap.size ≤ b2 := by omega
    have g4 : w.heap.size ≤ b4 := by omega
    have n32 : b3 ≠ b2 := by omega
    have n42 : b4 ≠ b2 := by omega
    rw [← h4, ← h3, ← h2]
    rw [← h4] at x4
    rw [← h3] at x3
    rw [← h2] at x2
    have H2 := am x2
    have H3 := am x3
    have H4 := am x4
    have HB := am hB
    clear x2 x3 x4 hB h2 h3 h4
    have y20 := bcv H2.out 0 (.int .i64 m0) rfl
    have y21 := bcv H2.out 1 (.int .i64 m1) rfl
    have y22 := bcv H2.out 2 (.int .i64 m2) rfl
    have y23 := bcv H2.out 3 (.int .i64 m3) rfl
    have y24 := bcv H2.out 4 (.int .i64 m4) rfl
    have y25 := bcv H2.out 5 (.int .i64 m5) rfl
    go_wp2_with fail
    refine (HFM.out w1 (HG.out.below HB.out)).mono ?_
    rintro e w2 ⟨rfl, hb⟩
    clear y20 y21 y22 y23 y24 y25
    replace H2 := am (blk_below H2.out hb)
    replace H3 := am (blk_below H3.out hb)
    replace H4 := am (blk_below H4.out hb)
    replace HB := am (below_step HB.out hb)
    clear hb
    have y30 := bcv H3.out 0 (.int .i64 c0) rfl
    have y31 := bcv H3.out 1 (.int .i64 c1) rfl
    have y32 := bcv H3.out 2 (.int .i64 c2) rfl
    have y33 := bcv H3.out 3 (.int .i64 c3) rfl
    have y34 := bcv H3.out 4 (.int .i64 c4) rfl
    have y35 := bcv H3.out 5 (.int .i64 c5) rfl
    go_wp2_with fail
    refine (HFC.out w2 (HG.out.below HB.out)).mono ?_
    rintro e w3 ⟨rfl, hb⟩
    clear y30 y31 y32 y33 y34 y35
    replace H2 := am (blk_below H2.out hb)
    replace H3 := am (blk_below H3.out hb)
    replace H4 := am (blk_below H4.out hb)
    replace HB := am (below_step HB.out hb)
    clear hb
    generalize w3 = w2 at H2 H3 H4 HB ⊢
    go_wp2_with fail
    go_loopw [16] (fun v16 wr => ∃ k : Int, (0 ≤ k ∧ k ≤ 6) ∧ v16 = .int .i64 k ∧ Aside0 (wr.heap[b2]? = some (.cells (SV m0 m1 m2 m3 m4 m5 s0 s1 s2 s3 s4 s5 k) 46 (0, 0))) ∧ Aside0 (wr.heap[b3]? = some (.cells #[.int .i64 c0, .int .i64 c1, .int .i64 c2, .int .i64 c3, .int .i64 c4, .int .i64 c5] 46 (0, 0))) ∧ Aside0 (wr.heap[b4]? = some (.cells #[.int .i64 0, .int .i64 0, .int .i64 0, .int .i64 0, .int .i64 0, .int .i64 0] 46 (0, 0))) ∧ Aside0 (Below w.heap.size w wr)) (fun v16 _ => 7 - (intOf v16).toNat)
    case atStart => exact ⟨0, by decide, rfl, ⟨H2.out⟩, H3, H4, HB⟩
    case round =>
     clear H2 H3 H4 HB
     obtain ⟨k, hk, rfl, H2, H3, H4, HB⟩ := hrel
     have hk4 : k = 0 ∨ k = 1 ∨ k = 2 ∨ k = 3 ∨ k = 4 ∨ k = 5 ∨ k = 6 := by omega
     clear hk
     rcases hk4 with rfl | rfl | rfl | rfl | rfl | rfl | rfl
     ·
      have y2 := bcv H2.out 0 (.int .i64 m0) rfl
      have y3 := bcv H3.out 0 (.int .i64 c0) rfl
      have f2 := bfz H2.out 0
      go_upto_region 6 with fail
      go_region
      rw [HS0.out]
      have q := (blk_set H2.out 0 (.int .i64 s0)).trans (show _ = some (Obj.cells (SV m0 m1 m2 m3 m4 m5 s0 s1 s2 s3 s4 s5 1) 46 (0, 0)) by kernel_rfl)
      have q3 := blk_far H3.out (p := ⟨b2, 0, none⟩) n32 (.int .i64 s0)
      have q4 := blk_far H4.out (p := ⟨b2, 0, none⟩) n42 (.int .i64 s0)
      have qb := HB.out.setCell (p := ⟨b2, 0, none⟩) g2 (.int .i64 s0)
      go_wp2_with fail
      go_roundw
      case rel => exact ⟨1, by decide, rfl, ⟨q⟩, ⟨q3⟩, ⟨q4⟩, ⟨below_drew qb⟩⟩
      case measure => decide
     ·
      have y2 := bcv H2.out 1 (.int .i64 m1) rfl
      have y3 := bcv H3.out 1 (.int .i64 c1) rfl
      have f2 := bfz H2.out 1
      go_upto_region 6 with fail
      go_region
      rw [HS1.out]
      have q := (blk_set H2.out 1 (.int .i64 s1)).trans (show _ = some (Obj.cells (SV m0 m1 m2 m3 m4 m5 s0 s1 s2 s3 s4 s5 2) 46 (0, 0)) by kernel_rfl)
      have q3 := blk_far H3.out (p := ⟨b2, 1, none⟩) n32 (.int .i64 s1)
      have q4 := blk_far H4.out (p := ⟨b2, 1, none⟩) n42 (.int .i64 s1)
      have qb := HB.out.setCell (p := ⟨b2, 1, none⟩) g2 (.int .i64 s1)
      go_wp2_with fail
      go_roundw
      case rel => exact ⟨2, by decide, rfl, ⟨q⟩, ⟨q3⟩, ⟨q4⟩, ⟨below_drew qb⟩⟩
      case measure => decide
     ·
      have y2 := bcv H2.out 2 (.int .i64 m2) rfl
      have y3 := bcv H3.out 2 (.int .i64 c2) rfl
      have f2 := bfz H2.out 2
      go_upto_region 6 with fail
      go_region
      rw [HS2.out]
      have q := (blk_set H2.out 2 (.int .i64 s2)).trans (show _ = some (Obj.cells (SV m0 m1 m2 m3 m4 m5 s0 s1 s2 s3 s4 s5 3) 46 (0, 0)) by kernel_rfl)
      have q3 := blk_far H3.out (p := ⟨b2, 2, none⟩) n32 (.int .i64 s2)
      have q4 := blk_far H4.out (p := ⟨b2, 2, none⟩) n42 (.int .i64 s2)
      have qb := HB.out.setCell (p := ⟨b2, 2, none⟩) g2 (.int .i64 s2)
      go_wp2_with fail
      go_roundw
      case rel => exact ⟨3, by decide, rfl, ⟨q⟩, ⟨q3⟩, ⟨q4⟩, ⟨below_drew qb⟩⟩
      case measure => decide
     ·
      have y2 := bcv H2.out 3 (.int .i64 m3) rfl
      have y3 := bcv H3.out 3 (.int .i64 c3) rfl
      have f2 := bfz H2.out 3
      go_upto_region 6 with fail
      go_region
      rw [HS3.out]
      have q := (blk_set H2.out 3 (.int .i64 s3)).trans (show _ = some (Obj.cells (SV m0 m1 m2 m3 m4 m5 s0 s1 s2 s3 s4 s5 4) 46 (0, 0)) by kernel_rfl)
      have q3 := blk_far H3.out (p := ⟨b2, 3, none⟩) n32 (.int .i64 s3)
      have q4 := blk_far H4.out (p := ⟨b2, 3, none⟩) n42 (.int .i64 s3)
      have qb := HB.out.setCell (p := ⟨b2, 3, none⟩) g2 (.int .i64 s3)
      go_wp2_with fail
      go_roundw
      case rel => exact ⟨4, by decide, rfl, ⟨q⟩, ⟨q3⟩, ⟨q4⟩, ⟨below_drew qb⟩⟩
      case measure => decide
     ·
      have y2 := bcv H2.out 4 (.int .i64 m4) rfl
      have y3 := bcv H3.out 4 (.int .i64 c4) rfl
      have f2 := bfz H2.out 4
      go_upto_region 6 with fail
      go_region
      rw [HS4.out]
      have q := (blk_set H2.out 4 (.int .i64 s4)).trans (show _ = some (Obj.cells (SV m0 m1 m2 m3 m4 m5 s0 s1 s2 s3 s4 s5 5) 46 (0, 0)) by kernel_rfl)
      have q3 := blk_far H3.out (p := ⟨b2, 4, none⟩) n32 (.int .i64 s4)
      have q4 := blk_far H4.out (p := ⟨b2, 4, none⟩) n42 (.int .i64 s4)
      have qb := HB.out.setCell (p := ⟨b2, 4, none⟩) g2 (.int .i64 s4)
      go_wp2_with fail
      go_roundw
      case rel => exact ⟨5, by decide, rfl, ⟨q⟩, ⟨q3⟩, ⟨q4⟩, ⟨below_drew qb⟩⟩
      case measure => decide
     ·
      have y2 := bcv H2.out 5 (.int .i64 m5) rfl
      have y3 := bcv H3.out 5 (.int .i64 c5) rfl
      have f2 := bfz H2.out 5
      go_upto_region 6 with fail
      go_region
      rw [HS5.out]
      have q := (blk_set H2.out 5 (.int .i64 s5)).trans (show _ = some (Obj.cells (SV m0 m1 m2 m3 m4 m5 s0 s1 s2 s3 s4 s5 6) 46 (0, 0)) by kernel_rfl)
      have q3 := blk_far H3.out (p := ⟨b2, 5, none⟩) n32 (.int .i64 s5)
      have q4 := blk_far H4.out (p := ⟨b2, 5, none⟩) n42 (.int .i64 s5)
      have qb := HB.out.setCell (p := ⟨b2, 5, none⟩) g2 (.int .i64 s5)
      go_wp2_with fail
      go_roundw
      case rel => exact ⟨6, by decide, rfl, ⟨q⟩, ⟨q3⟩, ⟨q4⟩, ⟨below_drew qb⟩⟩
      case measure => decide
     ·
      skip
      have y20 := bcv H2.out 0 (.int .i64 s0) rfl
      have y21 := bcv H2.out 1 (.int .i64 s1) rfl
      have y22 := bcv H2.out 2 (.int .i64 s2) rfl
      have y23 := bcv H2.out 3 (.int .i64 s3) rfl
      have y24 := bcv H2.out 4 (.int .i64 s4) rfl
      have y25 := bcv H2.out 5 (.int .i64 s5) rfl
      go_wp2_with fail
      refine (HFS.out wr (HG.out.below HB.out)).mono ?_
      rintro e w2 ⟨rfl, hb⟩
      clear y20 y21 y22 y23 y24 y25
      replace H2 := am (blk_below H2.out hb)
      replace H3 := am (blk_below H3.out hb)
      replace H4 := am (blk_below H4.out hb)
      replace HB := am (below_step HB.out hb)
      clear hb
      have y40 := bcv H4.out 0 (.int .i64 0) rfl
      have f40 := bfz H4.out 0
      have y41 := bcv H4.out 1 (.int .i64 0) rfl
      have f41 := bfz H4.out 1
      have y42 := bcv H4.out 2 (.int .i64 0) rfl
      have f42 := bfz H4.out 2
      have y43 := bcv H4.out 3 (.int .i64 0) rfl
      have f43 := bfz H4.out 3
      have y44 := bcv H4.out 4 (.int .i64 0) rfl
      have f44 := bfz H4.out 4
      have y45 := bcv H4.out 5 (.int .i64 0) rfl
      have f45 := bfz H4.out 5
      go_wp2_with fail
      obtain ⟨q, qb⟩ := six_set rfl H4.out g4 HB.out (.int .i64 0) (.int .i64 0) (.int .i64 0) (.int .i64 0) (.int .i64 0) (.int .i64 0)
      exact bodyPost_ret (results_ct rfl _ _ b4 46 _ (0, 0) _ rfl q Tryz.underlying46 rfl (by kernel_rfl)) rfl ⟨rfl, qb⟩
   | true =>
    refine ⟨s0, s1, s2, s3, s4, s5, 0, fun w hG => ?_⟩
    have HG := am hG
    clear hG
    unfold sym at HFM HFC ⊢
    go_enter Tryz.func100, Tryz.ntmps100
    go_upto_region 1 with fail
    obtain ⟨x2, x3, x4, hB⟩ := blocks3 w #[.int .i64 m0, .int .i64 m1, .int .i64 m2, .int .i64 m3, .int .i64 m4, .int .i64 m5] #[.int .i64 c0, .int .i64 c1, .int .i64 c2, .int .i64 c3, .int .i64 c4, .int .i64 c5] #[.int .i64 0, .int .i64 0, .int .i64 0, .int .i64 0, .int .i64 0, .int .i64 0] 46 46 46
    generalize ((w.alloc (.cells #[.int .i64 m0, .int .i64 m1, .int .i64 m2, .int .i64 m3, .int .i64 m4, .int .i64 m5] 46)).alloc (.cells #[.int .i64 c0, .int .i64 c1, .int .i64 c2, .int .i64 c3, .int .i64 c4, .int .i64 c5] 46)).alloc (.cells #[.int .i64 0, .int .i64 0, .int .i64 0, .int .i64 0, .int .i64 0, .int .i64 0] 46) = w1 at x2 x3 x4 hB ⊢
    obtain ⟨b2, h2⟩ : ∃ b, b = w.heap.size := ⟨_, rfl⟩
    obtain ⟨b3, h3⟩ : ∃ b, b = w.heap.size + 1 := ⟨_, rfl⟩
    obtain ⟨b4, h4⟩ : ∃ b, b = w.heap.size + 1 + 1 := ⟨_, rfl⟩
    have g2 : w.heap.size ≤ b2 := by omega
    have g4 : w.heap.size ≤ b4 := by omega
    have n32 : b3 ≠ b2 := by omega
    have n42 : b4 ≠ b2 := by omega
    rw [← h4, ← h3, ← h2]
    rw [← h4] at x4
    rw [← h3] at x3
    rw [← h2] at x2
    have H2 := am x2
    have H3 := am x3
    have H4 := am x4
    have HB := am hB
    clear x2 x3 x4 hB h2 h3 h4
    have y20 := bcv H2.out 0 (.int .i64 m0) rfl
    have y21 := bcv H2.out 1 (.int .i64 m1) rfl
    have y22 := bcv H2.out 2 (.int .i64 m2) rfl
    have y23 := bcv H2.out 3 (.int .i64 m3) rfl
    have y24 := bcv H2.out 4 (.int .i64 m4) rfl
    have y25 := bcv H2.out 5 (.int .i64 m5) rfl
    go_wp2_with fail
    refine (HFM.out w1 (HG.out.below HB.out)).mono ?_
    rintro e w2 ⟨rfl, hb⟩
    clear y20 y21 y22 y23 y24 y25
    replace H2 := am (blk_below H2.out hb)
    replace H3 := am (blk_below H3.out hb)
    replace H4 := am (blk_below H4.out hb)
    replace HB := am (below_step HB.out hb)
    clear hb
    have y30 := bcv H3.out 0 (.int .i64 c0) rfl
    have y31 := bcv H3.out 1 (.int .i64 c1) rfl
    have y32 := bcv H3.out 2 (.int .i64 c2) rfl
    have y33 := bcv H3.out 3 (.int .i64 c3) rfl
    have y34 := bcv H3.out 4 (.int .i64 c4) rfl
    have y35 := bcv H3.out 5 (.int .i64 c5) rfl
    go_wp2_with fail
    refine (HFC.out w2 (HG.out.below HB.out)).mono ?_
    rintro e w3 ⟨rfl, hb⟩
    clear y30 y31 y32 y33 y34 y35
    replace H2 := am (blk_below H2.out hb)
    replace H3 := am (blk_below H3.out hb)
    replace H4 := am (blk_below H4.out hb)
    replace HB := am (below_step HB.out hb)
    clear hb
    generalize w3 = w2 at H2 H3 H4 HB ⊢
    go_wp2_with fail
    go_loopw [16] (fun v16 wr => ∃ k : Int, (0 ≤ k ∧ k ≤ 6) ∧ v16 = .int .i64 k ∧ Aside0 (wr.heap[b2]? = some (.cells (SV m0 m1 m2 m3 m4 m5 s0 s1 s2 s3 s4 s5 k) 46 (0, 0))) ∧ Aside0 (wr.heap[b3]? = some (.cells #[.int .i64 c0, .int .i64 c1, .int .i64 c2, .int .i64 c3, .int .i64 c4, .int .i64 c5] 46 (0, 0))) ∧ Aside0 (wr.heap[b4]? = some (.cells #[.int .i64 0, .int .i64 0, .int .i64 0, .int .i64 0, .int .i64 0, .int .i64 0] 46 (0, 0))) ∧ Aside0 (Below w.heap.size w wr)) (fun v16 _ => 7 - (intOf v16).toNat)
    case atStart => exact ⟨0, by decide, rfl, ⟨H2.out⟩, H3, H4, HB⟩
    case round =>
     clear H2 H3 H4 HB
     obtain ⟨k, hk, rfl, H2, H3, H4, HB⟩ := hrel
     have hk4 : k = 0 ∨ k = 1 ∨ k = 2 ∨ k = 3 ∨ k = 4 ∨ k = 5 ∨ k = 6 := by omega
     clear hk
     rcases hk4 with rfl | rfl | rfl | rfl | rfl | rfl | rfl
     ·
      have y2 := bcv H2.out 0 (.int .i64 m0) rfl
      have y3 := bcv H3.out 0 (.int .i64 c0) rfl
      have f2 := bfz H2.out 0
      go_upto_region 6 with fail
      go_region
      rw [HS0.out]
      have q := (blk_set H2.out 0 (.int .i64 s0)).trans (show _ = some (Obj.cells (SV m0 m1 m2 m3 m4 m5 s0 s1 s2 s3 s4 s5 1) 46 (0, 0)) by kernel_rfl)
      have q3 := blk_far H3.out (p := ⟨b2, 0, none⟩) n32 (.int .i64 s0)
      have q4 := blk_far H4.out (p := ⟨b2, 0, none⟩) n42 (.int .i64 s0)
      have qb := HB.out.setCell (p := ⟨b2, 0, none⟩) g2 (.int .i64 s0)
      go_wp2_with fail
      go_roundw
      case rel => exact ⟨1, by decide, rfl, ⟨q⟩, ⟨q3⟩, ⟨q4⟩, ⟨below_drew qb⟩⟩
      case measure => decide
     ·
      have y2 := bcv H2.out 1 (.int .i64 m1) rfl
      have y3 := bcv H3.out 1 (.int .i64 c1) rfl
      have f2 := bfz H2.out 1
      go_upto_region 6 with fail
      go_region
      rw [HS1.out]
      have q := (blk_set H2.out 1 (.int .i64 s1)).trans (show _ = some (Obj.cells (SV m0 m1 m2 m3 m4 m5 s0 s1 s2 s3 s4 s5 2) 46 (0, 0)) by kernel_rfl)
      have q3 := blk_far H3.out (p := ⟨b2, 1, none⟩) n32 (.int .i64 s1)
      have q4 := blk_far H4.out (p := ⟨b2, 1, none⟩) n42 (.int .i64 s1)
      have qb := HB.out.setCell (p := ⟨b2, 1, none⟩) g2 (.int .i64 s1)
      go_wp2_with fail
      go_roundw
      case rel => exact ⟨2, by decide, rfl, ⟨q⟩, ⟨q3⟩, ⟨q4⟩, ⟨below_drew qb⟩⟩
      case measure => decide
     ·
      have y2 := bcv H2.out 2 (.int .i64 m2) rfl
      have y3 := bcv H3.out 2 (.int .i64 c2) rfl
      have f2 := bfz H2.out 2
      go_upto_region 6 with fail
      go_region
      rw [HS2.out]
      have q := (blk_set H2.out 2 (.int .i64 s2)).trans (show _ = some (Obj.cells (SV m0 m1 m2 m3 m4 m5 s0 s1 s2 s3 s4 s5 3) 46 (0, 0)) by kernel_rfl)
      have q3 := blk_far H3.out (p := ⟨b2, 2, none⟩) n32 (.int .i64 s2)
      have q4 := blk_far H4.out (p := ⟨b2, 2, none⟩) n42 (.int .i64 s2)
      have qb := HB.out.setCell (p := ⟨b2, 2, none⟩) g2 (.int .i64 s2)
      go_wp2_with fail
      go_roundw
      case rel => exact ⟨3, by decide, rfl, ⟨q⟩, ⟨q3⟩, ⟨q4⟩, ⟨below_drew qb⟩⟩
      case measure => decide
     ·
      have y2 := bcv H2.out 3 (.int .i64 m3) rfl
      have y3 := bcv H3.out 3 (.int .i64 c3) rfl
      have f2 := bfz H2.out 3
      go_upto_region 6 with fail
      go_region
      rw [HS3.out]
      have q := (blk_set H2.out 3 (.int .i64 s3)).trans (show _ = some (Obj.cells (SV m0 m1 m2 m3 m4 m5 s0 s1 s2 s3 s4 s5 4) 46 (0, 0)) by kernel_rfl)
      have q3 := blk_far H3.out (p := ⟨b2, 3, none⟩) n32 (.int .i64 s3)
      have q4 := blk_far H4.out (p := ⟨b2, 3, none⟩) n42 (.int .i64 s3)
      have qb := HB.out.setCell (p := ⟨b2, 3, none⟩) g2 (.int .i64 s3)
      go_wp2_with fail
      go_roundw
      case rel => exact ⟨4, by decide, rfl, ⟨q⟩, ⟨q3⟩, ⟨q4⟩, ⟨below_drew qb⟩⟩
      case measure => decide
     ·
      have y2 := bcv H2.out 4 (.int .i64 m4) rfl
      have y3 := bcv H3.out 4 (.int .i64 c4) rfl
      have f2 := bfz H2.out 4
      go_upto_region 6 with fail
      go_region
      rw [HS4.out]
      have q := (blk_set H2.out 4 (.int .i64 s4)).trans (show _ = some (Obj.cells (SV m0 m1 m2 m3 m4 m5 s0 s1 s2 s3 s4 s5 5) 46 (0, 0)) by kernel_rfl)
      have q3 := blk_far H3.out (p := ⟨b2, 4, none⟩) n32 (.int .i64 s4)
      have q4 := blk_far H4.out (p := ⟨b2, 4, none⟩) n42 (.int .i64 s4)
      have qb := HB.out.setCell (p := ⟨b2, 4, none⟩) g2 (.int .i64 s4)
      go_wp2_with fail
      go_roundw
      case rel => exact ⟨5, by decide, rfl, ⟨q⟩, ⟨q3⟩, ⟨q4⟩, ⟨below_drew qb⟩⟩
      case measure => decide
     ·
      have y2 := bcv H2.out 5 (.int .i64 m5) rfl
      have y3 := bcv H3.out 5 (.int .i64 c5) rfl
      have f2 := bfz H2.out 5
      go_upto_region 6 with fail
      go_region
      rw [HS5.out]
      have q := (blk_set H2.out 5 (.int .i64 s5)).trans (show _ = some (Obj.cells (SV m0 m1 m2 m3 m4 m5 s0 s1 s2 s3 s4 s5 6) 46 (0, 0)) by kernel_rfl)
      have q3 := blk_far H3.out (p := ⟨b2, 5, none⟩) n32 (.int .i64 s5)
      have q4 := blk_far H4.out (p := ⟨b2, 5, none⟩) n42 (.int .i64 s5)
      have qb := HB.out.setCell (p := ⟨b2, 5, none⟩) g2 (.int .i64 s5)
      go_wp2_with fail
      go_roundw
      case rel => exact ⟨6, by decide, rfl, ⟨q⟩, ⟨q3⟩, ⟨q4⟩, ⟨below_drew qb⟩⟩
      case measure => decide
     ·
      skip
      have y20 := bcv H2.out 0 (.int .i64 s0) rfl
      have y21 := bcv H2.out 1 (.int .i64 s1) rfl
      have y22 := bcv H2.out 2 (.int .i64 s2) rfl
      have y23 := bcv H2.out 3 (.int .i64 s3) rfl
      have y24 := bcv H2.out 4 (.int .i64 s4) rfl
      have y25 := bcv H2.out 5 (.int .i64 s5) rfl
      go_wp2_with fail
      refine (HFS.out wr (HG.out.below HB.out)).mono ?_
      rintro e w2 ⟨rfl, hb⟩
      clear y20 y21 y22 y23 y24 y25
      replace H2 := am (blk_below H2.out hb)
      replace H3 := am (blk_below H3.out hb)
      replace H4 := am (blk_below H4.out hb)
      replace HB := am (below_step HB.out hb)
      clear hb
      have y20 := bcv H2.out 0 (.int .i64 s0) rfl
      have y21 := bcv H2.out 1 (.int .i64 s1) rfl
      have y22 := bcv H2.out 2 (.int .i64 s2) rfl
      have y23 := bcv H2.out 3 (.int .i64 s3) rfl
      have y24 := bcv H2.out 4 (.int .i64 s4) rfl
      have y25 := bcv H2.out 5 (.int .i64 s5) rfl
      have y40 := bcv H4.out 0 (.int .i64 0) rfl
      have f40 := bfz H4.out 0
      have y41 := bcv H4.out 1 (.int .i64 0) rfl
      have f41 := bfz H4.out 1
      have y42 := bcv H4.out 2 (.int .i64 0) rfl
      have f42 := bfz H4.out 2
      have y43 := bcv H4.out 3 (.int .i64 0) rfl
      have f43 := bfz H4.out 3
      have y44 := bcv H4.out 4 (.int .i64 0) rfl
      have f44 := bfz H4.out 4
      have y45 := bcv H4.out 5 (.int .i64 0) rfl
      have f45 := bfz H4.out 5
      go_wp2_with fail
      obtain ⟨q, qb⟩ := six_set rfl H4.out g4 HB.out (.int .i64 s0) (.int .i64 s1) (.int .i64 s2) (.int .i64 s3) (.int .i64 s4) (.int .i64 s5)
      exact bodyPost_ret (results_ct rfl _ _ b4 46 _ (0, 0) _ rfl q Tryz.underlying46 rfl (by kernel_rfl)) rfl ⟨rfl, qb⟩
def PV (a0 b0 a1 b1 a2 b2 k : Int) : Array Value := if k = 0 then #[.int .i64 a0, .int .u64 b0] else if k = 1 then #[.int .i64 a1, .int .u64 b1] else #[.int .i64 a2, .int .u64 b2]
set_option maxRecDepth 100000 in
set_option maxHeartbeats 4000000 in
theorem part1_tells (n h0 l0 : Int) (h0' : 0 ≤ n) (h1' : n ≤ 127) (u0 : U l0) : ∃ x, ∀ b, TellsP (fun w => w.heap[b]? = some (.cells #[.int .i64 h0, .int .u64 l0] 124 (0, 0))) 97 #[.int .i64 n, .slice (some ⟨b, 0, none⟩) 1 1] (.int .i64 x) := by
 obtain ⟨a0, d0, e0, v0, ha0⟩ := wadd_tells 0 0 h0 l0 ⟨by decide, by decide⟩ u0
 have HA0 := am ha0
 obtain ⟨hh, hl, hu, hhalf⟩ := half_tells a0 d0 n v0 h0' h1'
 obtain ⟨x, ex, hint⟩ := int_tells hh hl
 have HH := am hhalf
 have HI := am hint
 clear hhalf hint ha0 v0 u0 h0' h1' hu
 unfold wide at HA0 HH HI
 unfold Ch.two at HI
 refine ⟨x, fun b w hG hp => ?_⟩
 have HG := am hG
 have HP := am hp
 clear hG hp
 go_enter Tryz.func97, Tryz.ntmps97
 go_wp2_with fail
 refine (wide_Of.calls 0 0 0 w rfl).mono ?_
 rintro e w1 ⟨rfl, hb⟩
 go_upto_region 2 with fail
 have H5 := am (show (w1.alloc (.cells #[.int .i64 0, .int .u64 0] 124)).heap[w1.heap.size]? = some (.cells (PV 0 0 a0 d0 a0 d0 0) 124 (0, 0)) from blk_new w1 (.cells #[.int .i64 0, .int .u64 0] 124))
 have HX := am (blk_alloc (blk_below HP.out hb) (.cells #[.int .i64 0, .int .u64 0] 124))
 have g5 := hb.size
 have HB := am (below_alloc hb (.cells #[.int .i64 0, .int .u64 0] 124))
 have nb : b ≠ w1.heap.size := Nat.ne_of_lt (Nat.lt_of_lt_of_le (blk_lt HP.out) hb.size)
 clear hb
 generalize w1.alloc (.cells #[.int .i64 0, .int .u64 0] 124) = w2 at H5 HX HB ⊢
 generalize w1.heap.size = b5 at H5 g5 nb ⊢
 go_wp2_with fail
 go_loopw [13] (fun v13 wr => ∃ k : Int, (0 ≤ k ∧ k ≤ 1) ∧ v13 = .int .i64 k ∧ Aside0 (wr.heap[b5]? = some (.cells (PV 0 0 a0 d0 a0 d0 k) 124 (0, 0))) ∧ Aside0 (wr.heap[b]? = some (.cells #[.int .i64 h0, .int .u64 l0] 124 (0, 0))) ∧ Aside0 (Below w.heap.size w wr)) (fun v13 _ => 2 - (intOf v13).toNat)
 case atStart => exact ⟨0, by decide, rfl, H5, HX, HB⟩
 case round =>
  clear H5 HX HB
  obtain ⟨k, hk, rfl, H5, HX, HB⟩ := hrel
  have hk4 : k = 0 ∨ k = 1 := by omega
  clear hk
  rcases hk4 with rfl | rfl
  ·
   have x0 := bcv HX.out 0 (.int .i64 h0) rfl
   have x1 := bcv HX.out 1 (.int .u64 l0) rfl
   go_upto_region 5 with fail
   have HY := am (blk_new wr (.cells #[.int .i64 h0, .int .u64 l0] 124))
   replace H5 := am (blk_alloc H5.out (.cells #[.int .i64 h0, .int .u64 l0] 124))
   replace HX := am (blk_alloc HX.out (.cells #[.int .i64 h0, .int .u64 l0] 124))
   replace HB := am (below_alloc HB.out (.cells #[.int .i64 h0, .int .u64 l0] 124))
   clear x0 x1
   generalize wr.alloc (.cells #[.int .i64 h0, .int .u64 l0] 124) = w3 at HY H5 HX HB ⊢
   generalize wr.heap.size = b7 at HY ⊢
   have y0 := bcv H5.out 0 (.int .i64 0) rfl
   have y1 := bcv H5.out 1 (.int .u64 0) rfl
   have z0 := bcv HY.out 0 (.int .i64 h0) rfl
   have z1 := bcv HY.out 1 (.int .u64 l0) rfl
   go_wp2_with fail
   refine (HA0.out w3 (HG.out.below HB.out)).mono ?_
   rintro e w4 ⟨rfl, hb⟩
   replace H5 := am (blk_below H5.out hb)
   replace HX := am (blk_below HX.out hb)
   replace HB := am (below_step HB.out hb)
   clear hb y0 y1 z0 z1 HY
   have y0 := bcv H5.out 0 (.int .i64 0) rfl
   have y1 := bcv H5.out 1 (.int .u64 0) rfl
   have f0 := bfz H5.out 0
   have f1 := bfz H5.out 1
   go_wp2_with fail
   obtain ⟨q, qb⟩ := two_set rfl H5.out g5 HB.out (.int .i64 a0) (.int .u64 d0)
   have qx := blk_far (blk_far HX.out (p := ⟨b5, 0, none⟩) nb (.int .i64 a0)) (p := ⟨b5, 1, none⟩) nb (.int .u64 d0)
   go_roundw
   case rel => exact ⟨1, by decide, rfl, ⟨q⟩, ⟨qx⟩, ⟨qb⟩⟩
   case measure => decide
  ·
   have y0 := bcv H5.out 0 (.int .i64 a0) rfl
   have y1 := bcv H5.out 1 (.int .u64 d0) rfl
   go_wp2_with fail
   refine (HH.out wr (HG.out.below HB.out)).mono ?_
   rintro e w4 ⟨rfl, hb⟩
   replace H5 := am (blk_below H5.out hb)
   replace HB := am (below_step HB.out hb)
   clear hb y0 y1
   have y0 := bcv H5.out 0 (.int .i64 a0) rfl
   have y1 := bcv H5.out 1 (.int .u64 d0) rfl
   have f0 := bfz H5.out 0
   have f1 := bfz H5.out 1
   go_upto_region 8 with fail
   obtain ⟨q, qb⟩ := two_set rfl H5.out g5 HB.out (.int .i64 hh) (.int .u64 hl)
   clear y0 y1 f0 f1
   generalize (w4.setCell ⟨b5, 0, none⟩ (.int .i64 hh)).setCell ⟨b5, 1, none⟩ (.int .u64 hl) = w5 at q qb ⊢
   have y0 := bcv q 0 (.int .i64 hh) rfl
   have y1 := bcv q 1 (.int .u64 hl) rfl
   have QB := am qb
   clear q qb
   go_wp2_with fail
   refine (HI.out w5 (HG.out.below QB.out)).mono ?_
   rintro e w6 ⟨rfl, hb⟩
   go_wp2_with fail
   go_ret
   exact ⟨rfl, below_step QB.out hb⟩
set_option maxRecDepth 100000 in
set_option maxHeartbeats 4000000 in
theorem part2_tells (n h0 l0 h1 l1 : Int) (h0' : 0 ≤ n) (h1' : n ≤ 127) (u0 : U l0) (u1 : U l1) : ∃ x, ∀ b, TellsP (fun w => w.heap[b]? = some (.cells #[.int .i64 h0, .int .u64 l0, .int .i64 h1, .int .u64 l1] 124 (0, 0))) 97 #[.int .i64 n, .slice (some ⟨b, 0, none⟩) 2 2] (.int .i64 x) := by
 obtain ⟨a0, d0, e0, v0, ha0⟩ := wadd_tells 0 0 h0 l0 ⟨by decide, by decide⟩ u0
 have HA0 := am ha0
 obtain ⟨a1, d1, e1, v1, ha1⟩ := wadd_tells a0 d0 h1 l1 v0 u1
 have HA1 := am ha1
 obtain ⟨hh, hl, hu, hhalf⟩ := half_tells a1 d1 n v1 h0' h1'
 obtain ⟨x, ex, hint⟩ := int_tells hh hl
 have HH := am hhalf
 have HI := am hint
 clear hhalf hint ha0 ha1 v0 v1 u0 u1 h0' h1' hu
 unfold wide at HA0 HA1 HH HI
 unfold Ch.two at HI
 refine ⟨x, fun b w hG hp => ?_⟩
 have HG := am hG
 have HP := am hp
 clear hG hp
 go_enter Tryz.func97, Tryz.ntmps97
 go_wp2_with fail
 refine (wide_Of.calls 0 0 0 w rfl).mono ?_
 rintro e w1 ⟨rfl, hb⟩
 go_upto_region 2 with fail
 have H5 := am (show (w1.alloc (.cells #[.int .i64 0, .int .u64 0] 124)).heap[w1.heap.size]? = some (.cells (PV 0 0 a0 d0 a1 d1 0) 124 (0, 0)) from blk_new w1 (.cells #[.int .i64 0, .int .u64 0] 124))
 have HX := am (blk_alloc (blk_below HP.out hb) (.cells #[.int .i64 0, .int .u64 0] 124))
 have g5 := hb.size
 have HB := am (below_alloc hb (.cells #[.int .i64 0, .int .u64 0] 124))
 have nb : b ≠ w1.heap.size := Nat.ne_of_lt (Nat.lt_of_lt_of_le (blk_lt HP.out) hb.size)
 clear hb
 generalize w1.alloc (.cells #[.int .i64 0, .int .u64 0] 124) = w2 at H5 HX HB ⊢
 generalize w1.heap.size = b5 at H5 g5 nb ⊢
 go_wp2_with fail
 go_loopw [13] (fun v13 wr => ∃ k : Int, (0 ≤ k ∧ k ≤ 2) ∧ v13 = .int .i64 k ∧ Aside0 (wr.heap[b5]? = some (.cells (PV 0 0 a0 d0 a1 d1 k) 124 (0, 0))) ∧ Aside0 (wr.heap[b]? = some (.cells #[.int .i64 h0, .int .u64 l0, .int .i64 h1, .int .u64 l1] 124 (0, 0))) ∧ Aside0 (Below w.heap.size w wr)) (fun v13 _ => 3 - (intOf v13).toNat)
 case atStart => exact ⟨0, by decide, rfl, H5, HX, HB⟩
 case round =>
  clear H5 HX HB
  obtain ⟨k, hk, rfl, H5, HX, HB⟩ := hrel
  have hk4 : k = 0 ∨ k = 1 ∨ k = 2 := by omega
  clear hk
  rcases hk4 with rfl | rfl | rfl
  ·
   have x0 := bcv HX.out 0 (.int .i64 h0) rfl
   have x1 := bcv HX.out 1 (.int .u64 l0) rfl
   go_upto_region 5 with fail
   have HY := am (blk_new wr (.cells #[.int .i64 h0, .int .u64 l0] 124))
   replace H5 := am (blk_alloc H5.out (.cells #[.int .i64 h0, .int .u64 l0] 124))
   replace HX := am (blk_alloc HX.out (.cells #[.int .i64 h0, .int .u64 l0] 124))
   replace HB := am (below_alloc HB.out (.cells #[.int .i64 h0, .int .u64 l0] 124))
   clear x0 x1
   generalize wr.alloc (.cells #[.int .i64 h0, .int .u64 l0] 124) = w3 at HY H5 HX HB ⊢
   generalize wr.heap.size = b7 at HY ⊢
   have y0 := bcv H5.out 0 (.int .i64 0) rfl
   have y1 := bcv H5.out 1 (.int .u64 0) rfl
   have z0 := bcv HY.out 0 (.int .i64 h0) rfl
   have z1 := bcv HY.out 1 (.int .u64 l0) rfl
   go_wp2_with fail
   refine (HA0.out w3 (HG.out.below HB.out)).mono ?_
   rintro e w4 ⟨rfl, hb⟩
   replace H5 := am (blk_below H5.out hb)
   replace HX := am (blk_below HX.out hb)
   replace HB := am (below_step HB.out hb)
   clear hb y0 y1 z0 z1 HY
   have y0 := bcv H5.out 0 (.int .i64 0) rfl
   have y1 := bcv H5.out 1 (.int .u64 0) rfl
   have f0 := bfz H5.out 0
   have f1 := bfz H5.out 1
   go_wp2_with fail
   obtain ⟨q, qb⟩ := two_set rfl H5.out g5 HB.out (.int .i64 a0) (.int .u64 d0)
   have qx := blk_far (blk_far HX.out (p := ⟨b5, 0, none⟩) nb (.int .i64 a0)) (p := ⟨b5, 1, none⟩) nb (.int .u64 d0)
   go_roundw
   case rel => exact ⟨1, by decide, rfl, ⟨q⟩, ⟨qx⟩, ⟨qb⟩⟩
   case measure => decide
  ·
   have x0 := bcv HX.out 2 (.int .i64 h1) rfl
   have x1 := bcv HX.out 3 (.int .u64 l1) rfl
   go_upto_region 5 with fail
   have HY := am (blk_new wr (.cells #[.int .i64 h1, .int .u64 l1] 124))
   replace H5 := am (blk_alloc H5.out (.cells #[.int .i64 h1, .int .u64 l1] 124))
   replace HX := am (blk_alloc HX.out (.cells #[.int .i64 h1, .int .u64 l1] 124))
   replace HB := am (below_alloc HB.out (.cells #[.int .i64 h1, .int .u64 l1] 124))
   clear x0 x1
   generalize wr.alloc (.cells #[.int .i64 h1, .int .u64 l1] 124) = w3 at HY H5 HX HB ⊢
   generalize wr.heap.size = b7 at HY ⊢
   have y0 := bcv H5.out 0 (.int .i64 a0) rfl
   have y1 := bcv H5.out 1 (.int .u64 d0) rfl
   have z0 := bcv HY.out 0 (.int .i64 h1) rfl
   have z1 := bcv HY.out 1 (.int .u64 l1) rfl
   go_wp2_with fail
   refine (HA1.out w3 (HG.out.below HB.out)).mono ?_
   rintro e w4 ⟨rfl, hb⟩
   replace H5 := am (blk_below H5.out hb)
   replace HX := am (blk_below HX.out hb)
   replace HB := am (below_step HB.out hb)
   clear hb y0 y1 z0 z1 HY
   have y0 := bcv H5.out 0 (.int .i64 a0) rfl
   have y1 := bcv H5.out 1 (.int .u64 d0) rfl
   have f0 := bfz H5.out 0
   have f1 := bfz H5.out 1
   go_wp2_with fail
   obtain ⟨q, qb⟩ := two_set rfl H5.out g5 HB.out (.int .i64 a1) (.int .u64 d1)
   have qx := blk_far (blk_far HX.out (p := ⟨b5, 0, none⟩) nb (.int .i64 a1)) (p := ⟨b5, 1, none⟩) nb (.int .u64 d1)
   go_roundw
   case rel => exact ⟨2, by decide, rfl, ⟨q⟩, ⟨qx⟩, ⟨qb⟩⟩
   case measure => decide
  ·
   have y0 := bcv H5.out 0 (.int .i64 a1) rfl
   have y1 := bcv H5.out 1 (.int .u64 d1) rfl
   go_wp2_with fail
   refine (HH.out wr (HG.out.below HB.out)).mono ?_
   rintro e w4 ⟨rfl, hb⟩
   replace H5 := am (blk_below H5.out hb)
   replace HB := am (below_step HB.out hb)
   clear hb y0 y1
   have y0 := bcv H5.out 0 (.int .i64 a1) rfl
   have y1 := bcv H5.out 1 (.int .u64 d1) rfl
   have f0 := bfz H5.out 0
   have f1 := bfz H5.out 1
   go_upto_region 8 with fail
   obtain ⟨q, qb⟩ := two_set rfl H5.out g5 HB.out (.int .i64 hh) (.int .u64 hl)
   clear y0 y1 f0 f1
   generalize (w4.setCell ⟨b5, 0, none⟩ (.int .i64 hh)).setCell ⟨b5, 1, none⟩ (.int .u64 hl) = w5 at q qb ⊢
   have y0 := bcv q 0 (.int .i64 hh) rfl
   have y1 := bcv q 1 (.int .u64 hl) rfl
   have QB := am qb
   clear q qb
   go_wp2_with fail
   refine (HI.out w5 (HG.out.below QB.out)).mono ?_
   rintro e w6 ⟨rfl, hb⟩
   go_wp2_with fail
   go_ret
   exact ⟨rfl, below_step QB.out hb⟩
set_option maxRecDepth 100000 in
set_option maxHeartbeats 4000000 in
theorem on_tells (x0 x1 x2 th : Int) : ∃ r0 r1 r2 e, Tells 67 #[vec x0 x1 x2, .int .i64 th] (.tuple #[vec r0 r1 r2, .int .i64 e]) := by
 obtain ⟨kf, hf⟩ := vfits_tells x0 x1 x2
 obtain ⟨d, e0, hs⟩ := sub_tells th x2
 obtain ⟨mh, ml, mu, hm⟩ := mul_tells x1 256
 obtain ⟨p, hp⟩ := part2_tells 15 mh ml (d / 9223372036854775808) (IntKind.u64.wrap d) (by decide) (by decide) mu (u_wrap d)
 obtain ⟨q', hq⟩ := part1_tells 7 (d / 9223372036854775808) (IntKind.u64.wrap d) (by decide) (by decide) (u_wrap d)
 obtain ⟨r0, r1, r2, e1, ha⟩ := vadd_tells x0 x1 x2 p q' 0
 have HF := am hf
 have HS := am hs
 have HM := am hm
 have HP := am hp
 have HQ := am hq
 have HA := am ha
 clear hf hs hm hp hq ha mu
 unfold vec at HF HA
 unfold wide at HM
 unfold Ch.two at HS
 cases kf with
 | false =>
  refine ⟨0, 0, 0, 1, fun w hG => ?_⟩
  have HG := am hG
  clear hG
  unfold vec
  go_enter Tryz.func67, Tryz.ntmps67
  go_upto_region 1 with fail
  obtain ⟨x2', x4', hB⟩ := blocks2 w #[.int .i64 x0, .int .i64 x1, .int .i64 x2] #[.int .i64 0, .int .i64 0, .int .i64 0] 26 26
  generalize (w.alloc (.cells #[.int .i64 x0, .int .i64 x1, .int .i64 x2] 26)).alloc (.cells #[.int .i64 0, .int .i64 0, .int .i64 0] 26) = w1 at x2' x4' hB ⊢
  obtain ⟨b2, h2⟩ : ∃ b, b = w.heap.size := ⟨_, rfl⟩
  obtain ⟨b4, h4⟩ : ∃ b, b = w.heap.size + 1 := ⟨_, rfl⟩
  have g4 : w.heap.size ≤ b4 := by omega
  have ne : b2 ≠ b4 := by omega
  rw [← h4, ← h2]
  rw [← h4] at x4'
  rw [← h2] at x2'
  have H2 := am x2'
  have H4 := am x4'
  have HB := am hB
  clear x2' x4' hB h2 h4
  have y20 := bcv H2.out 0 (.int .i64 x0) rfl
  have y21 := bcv H2.out 1 (.int .i64 x1) rfl
  have y22 := bcv H2.out 2 (.int .i64 x2) rfl
  go_wp2_with fail
  refine (HF.out w1 (HG.out.below HB.out)).mono ?_
  rintro e w2 ⟨rfl, hb⟩
  clear y20 y21 y22
  replace H2 := am (blk_below H2.out hb)
  replace H4 := am (blk_below H4.out hb)
  replace HB := am (below_step HB.out hb)
  clear hb
  have y20 := bcv H2.out 0 (.int .i64 x0) rfl
  have y21 := bcv H2.out 1 (.int .i64 x1) rfl
  have y22 := bcv H2.out 2 (.int .i64 x2) rfl
  have y40 := bcv H4.out 0 (.int .i64 0) rfl
  have f40 := bfz H4.out 0
  have y41 := bcv H4.out 1 (.int .i64 0) rfl
  have f41 := bfz H4.out 1
  have y42 := bcv H4.out 2 (.int .i64 0) rfl
  have f42 := bfz H4.out 2
  go_wp2_with fail
  obtain ⟨q, qb⟩ := three_set rfl H4.out g4 HB.out (.int .i64 0) (.int .i64 0) (.int .i64 0)
  exact bodyPost_ret (results_ct rfl _ _ b4 26 _ (0, 0) _ rfl q Tryz.underlying26 rfl (by kernel_rfl)) rfl ⟨rfl, qb⟩
 | true =>
  cases ht : fits th with
  | false =>
   have HT := am ht
   clear ht
   refine ⟨0, 0, 0, 1, fun w hG => ?_⟩
   have HG := am hG
   clear hG
   unfold vec
   go_enter Tryz.func67, Tryz.ntmps67
   go_upto_region 1 with fail
   obtain ⟨x2', x4', hB⟩ := blocks2 w #[.int .i64 x0, .int .i64 x1, .int .i64 x2] #[.int .i64 0, .int .i64 0, .int .i64 0] 26 26
   generalize (w.alloc (.cells #[.int .i64 x0, .int .i64 x1, .int .i64 x2] 26)).alloc (.cells #[.int .i64 0, .int .i64 0, .int .i64 0] 26) = w1 at x2' x4' hB ⊢
   obtain ⟨b2, h2⟩ : ∃ b, b = w.heap.size := ⟨_, rfl⟩
   obtain ⟨b4, h4⟩ : ∃ b, b = w.heap.size + 1 := ⟨_, rfl⟩
   have g4 : w.heap.size ≤ b4 := by omega
   have ne : b2 ≠ b4 := by omega
   rw [← h4, ← h2]
   rw [← h4] at x4'
   rw [← h2] at x2'
   have H2 := am x2'
   have H4 := am x4'
   have HB := am hB
   clear x2' x4' hB h2 h4
   have y20 := bcv H2.out 0 (.int .i64 x0) rfl
   have y21 := bcv H2.out 1 (.int .i64 x1) rfl
   have y22 := bcv H2.out 2 (.int .i64 x2) rfl
   go_wp2_with fail
   refine (HF.out w1 (HG.out.below HB.out)).mono ?_
   rintro e w2 ⟨rfl, hb⟩
   clear y20 y21 y22
   replace H2 := am (blk_below H2.out hb)
   replace H4 := am (blk_below H4.out hb)
   replace HB := am (below_step HB.out hb)
   clear hb
   have y20 := bcv H2.out 0 (.int .i64 x0) rfl
   have y21 := bcv H2.out 1 (.int .i64 x1) rfl
   have y22 := bcv H2.out 2 (.int .i64 x2) rfl
   have y40 := bcv H4.out 0 (.int .i64 0) rfl
   have f40 := bfz H4.out 0
   have y41 := bcv H4.out 1 (.int .i64 0) rfl
   have f41 := bfz H4.out 1
   have y42 := bcv H4.out 2 (.int .i64 0) rfl
   have f42 := bfz H4.out 2
   go_wp2_with fail
   refine (fits_any w2 th).mono ?_
   rintro e w3 ⟨rfl, rfl⟩
   rw [HT.out]
   go_wp2_with fail
   obtain ⟨q, qb⟩ := three_set rfl H4.out g4 HB.out (.int .i64 0) (.int .i64 0) (.int .i64 0)
   exact bodyPost_ret (results_ct rfl _ _ b4 26 _ (0, 0) _ rfl q Tryz.underlying26 rfl (by kernel_rfl)) rfl ⟨rfl, qb⟩
  | true =>
   have HT := am ht
   clear ht
   by_cases h0 : e0 = 0
   ·
    subst h0
    refine ⟨r0, r1, r2, e1, fun w hG => ?_⟩
    have HG := am hG
    clear hG
    unfold vec
    go_enter Tryz.func67, Tryz.ntmps67
    go_upto_region 1 with fail
    obtain ⟨x2', x4', hB⟩ := blocks2 w #[.int .i64 x0, .int .i64 x1, .int .i64 x2] #[.int .i64 0, .int .i64 0, .int .i64 0] 26 26
    generalize (w.alloc (.cells #[.int .i64 x0, .int .i64 x1, .int .i64 x2] 26)).alloc (.cells #[.int .i64 0, .int .i64 0, .int .i64 0] 26) = w1 at x2' x4' hB ⊢
    obtain ⟨b2, h2⟩ : ∃ b, b = w.heap.size := ⟨_, rfl⟩
    obtain ⟨b4, h4⟩ : ∃ b, b = w.heap.size + 1 := ⟨_, rfl⟩
    have g4 : w.heap.size ≤ b4 := by omega
    have ne : b2 ≠ b4 := by omega
    rw [← h4, ← h2]
    rw [← h4] at x4'
    rw [← h2] at x2'
    have H2 := am x2'
    have H4 := am x4'
    have HB := am hB
    clear x2' x4' hB h2 h4
    have y20 := bcv H2.out 0 (.int .i64 x0) rfl
    have y21 := bcv H2.out 1 (.int .i64 x1) rfl
    have y22 := bcv H2.out 2 (.int .i64 x2) rfl
    go_wp2_with fail
    refine (HF.out w1 (HG.out.below HB.out)).mono ?_
    rintro e w2 ⟨rfl, hb⟩
    clear y20 y21 y22
    replace H2 := am (blk_below H2.out hb)
    replace H4 := am (blk_below H4.out hb)
    replace HB := am (below_step HB.out hb)
    clear hb
    have y20 := bcv H2.out 0 (.int .i64 x0) rfl
    have y21 := bcv H2.out 1 (.int .i64 x1) rfl
    have y22 := bcv H2.out 2 (.int .i64 x2) rfl
    have y40 := bcv H4.out 0 (.int .i64 0) rfl
    have f40 := bfz H4.out 0
    have y41 := bcv H4.out 1 (.int .i64 0) rfl
    have f41 := bfz H4.out 1
    have y42 := bcv H4.out 2 (.int .i64 0) rfl
    have f42 := bfz H4.out 2
    go_wp2_with fail
    refine (fits_any w2 th).mono ?_
    rintro e w3 ⟨rfl, rfl⟩
    rw [HT.out]
    go_wp2_with fail
    refine (HS.out _ (HG.out.below HB.out)).mono ?_
    rintro e w4 ⟨rfl, hb⟩
    clear y20 y21 y22 y40 y41 y42 f40 f41 f42
    replace H2 := am (blk_below H2.out hb)
    replace H4 := am (blk_below H4.out hb)
    replace HB := am (below_step HB.out hb)
    clear hb
    have y40 := bcv H4.out 0 (.int .i64 0) rfl
    have f40 := bfz H4.out 0
    have y41 := bcv H4.out 1 (.int .i64 0) rfl
    have f41 := bfz H4.out 1
    have y42 := bcv H4.out 2 (.int .i64 0) rfl
    have f42 := bfz H4.out 2
    clear y40 y41 y42 f40 f41 f42
    go_upto_region 6 with fail
    refine start_ (n := 18) (S := fun w' => w'.heap[b2]? = some (.cells #[.int .i64 x0, .int .i64 x1, .int .i64 x2] 26 (0, 0))) (ds := []) (flg 18 0) (by kernel_rfl) rfl rfl H2.out (fun hHeld => ?_)
    replace H2 := am (blk_drew H2.out)
    replace H4 := am (blk_drew H4.out)
    replace HB := am (below_drew HB.out)
    generalize w4.drew = wd at H2 H4 HB hHeld ⊢
    refine take_ (i := 0) (N := (some 28)) (v := ?_) (a' := ?_) (flg 18 1) rfl rfl (by kernel_rfl) (fun _ _ _ h => h) (Or.inl ⟨by rfl, ?_⟩) hHeld ?_ ?_
    rotate_left
    ·
     rintro w' s0
     have x0 := bcv s0 0 (.int .i64 x0) rfl
     have x1 := bcv s0 1 (.int .i64 x1) rfl
     have x2 := bcv s0 2 (.int .i64 x2) rfl
     go_simp
     with_reducible rfl
    rotate_left
    ·
     simp only [pw]
     rfl
    refine pure_ (i := 1) (N := (some 29)) (v := ?_) (a' := ?_) (flg 18 3) rfl rfl (by kernel_rfl) (fun _ _ _ h => h) (Or.inl ⟨by rfl, ?_⟩) ?_ ?_
    rotate_left
    ·
     intro w'
     go_simp
     with_reducible rfl
    rotate_left
    ·
     simp only [pw]
     rfl
    refine take_ (i := 2) (N := (some 30)) (v := ?_) (a' := ?_) (flg 18 7) rfl rfl (by kernel_rfl) (fun _ _ _ h => h) (Or.inl ⟨by rfl, ?_⟩) hHeld ?_ ?_
    rotate_left
    ·
     rintro w' s0
     have x := bcv s0 1 (.int .i64 x1) rfl
     go_simp
     with_reducible rfl
    rotate_left
    ·
     simp only [pw]
     rfl
    refine pure_ (i := 4) (N := (some 32)) (v := ?_) (a' := ?_) (flg 18 23) rfl rfl (by kernel_rfl) (fun _ _ _ h => h) (Or.inl ⟨by rfl, ?_⟩) ?_ ?_
    rotate_left
    ·
     intro w'
     go_simp
     with_reducible rfl
    rotate_left
    ·
     simp only [pw]
     rfl
    refine pure_ (i := 8) (N := (some 36)) (v := ?_) (a' := ?_) (flg 18 279) rfl rfl (by kernel_rfl) (fun _ _ _ h => h) (Or.inl ⟨by rfl, ?_⟩) ?_ ?_
    rotate_left
    ·
     intro w'
     go_simp
     with_reducible rfl
    rotate_left
    ·
     simp only [pw]
     rfl
    refine one_ (i := 3) (N := (some 31)) (flg 18 287) rfl rfl (by kernel_rfl) (by decide) (fun K hK => ?_)
    refine goes_ Tryz.func98 (by kernel_rfl) rfl #[.int .i64 x1, .int .i64 256] (by rfl) rfl rfl (by (try simp only [List.map_toArray, List.map_cons, List.map_nil]); first | done | rfl) ?_
    refine (HM.out wd (HG.out.below HB.out)).mono ?_
    rintro e wa ⟨rfl, hb⟩
    replace H2 := am (blk_below H2.out hb)
    replace H4 := am (blk_below H4.out hb)
    replace HB := am (below_step HB.out hb)
    clear hb hHeld
    refine ⟨_, rfl, ?_⟩
    refine hK.out _ _ H2.out (fun hHeld => ?_)
    clear hK K
    refine norm_ (a' := ?_) ?_ ?_
    rotate_left
    ·
     show Act.put _ (some 31) _ = _
     simp only [pw]
     rfl
    refine one_ (i := 5) (N := (some 33)) (flg 18 319) rfl rfl (by kernel_rfl) (by decide) (fun K hK => ?_)
    refine goes_ Tryz.func79 (by kernel_rfl) rfl #[.int .i64 d] (by rfl) rfl rfl (by (try simp only [List.map_toArray, List.map_cons, List.map_nil]); first | done | rfl) ?_
    refine (wide_Of.calls d _ _ wa rfl).mono ?_
    rintro e wb ⟨rfl, hb⟩
    replace H2 := am (blk_below H2.out hb)
    replace H4 := am (blk_below H4.out hb)
    replace HB := am (below_step HB.out hb)
    clear hb hHeld
    refine ⟨_, rfl, ?_⟩
    refine hK.out _ _ H2.out (fun hHeld => ?_)
    clear hK K
    refine norm_ (a' := ?_) ?_ ?_
    rotate_left
    ·
     show Act.put _ (some 33) _ = _
     simp only [pw]
     rfl
    refine one_ (i := 6) (N := (some 34)) (flg 18 383) rfl rfl (by kernel_rfl) (by decide) (fun K hK => ?_)
    refine event_step (v := .slice (some ⟨wb.heap.size, 0, none⟩) 2 2) (w1 := wb.alloc (.cells #[.int .i64 mh, .int .u64 ml, .int .i64 (d / 9223372036854775808), .int .u64 (IntKind.u64.wrap d)] 124)) (by rfl) (by first | (go_simp; done) | (go_simp; rfl)) ?_
    replace H2 := am (blk_alloc H2.out (.cells #[.int .i64 mh, .int .u64 ml, .int .i64 (d / 9223372036854775808), .int .u64 (IntKind.u64.wrap d)] 124))
    replace H4 := am (blk_alloc H4.out (.cells #[.int .i64 mh, .int .u64 ml, .int .i64 (d / 9223372036854775808), .int .u64 (IntKind.u64.wrap d)] 124))
    have HN := am (blk_new wb (.cells #[.int .i64 mh, .int .u64 ml, .int .i64 (d / 9223372036854775808), .int .u64 (IntKind.u64.wrap d)] 124))
    replace HB := am (below_alloc HB.out (.cells #[.int .i64 mh, .int .u64 ml, .int .i64 (d / 9223372036854775808), .int .u64 (IntKind.u64.wrap d)] 124))
    clear hHeld
    generalize wb.alloc (.cells #[.int .i64 mh, .int .u64 ml, .int .i64 (d / 9223372036854775808), .int .u64 (IntKind.u64.wrap d)] 124) = wc at H2 H4 HN HB ⊢
    generalize wb.heap.size = bn at HN ⊢
    refine hK.out _ _ H2.out (fun hHeld => ?_)
    clear hK K
    refine norm_ (a' := ?_) ?_ ?_
    rotate_left
    ·
     show Act.put _ (some 34) _ = _
     simp only [pw]
     rfl
    refine one_ (i := 7) (N := (some 35)) (flg 18 511) rfl rfl (by kernel_rfl) (by decide) (fun K hK => ?_)
    refine goes_ Tryz.func97 (by kernel_rfl) rfl #[.int .i64 15, .slice (some ⟨bn, 0, none⟩) 2 2] (by rfl) rfl rfl (by (try simp only [List.map_toArray, List.map_cons, List.map_nil]); first | done | rfl) ?_
    refine (HP.out bn wc (HG.out.below HB.out) HN.out).mono ?_
    rintro e we ⟨rfl, hb⟩
    replace H2 := am (blk_below H2.out hb)
    replace H4 := am (blk_below H4.out hb)
    replace HB := am (below_step HB.out hb)
    clear HN
    clear hb hHeld
    refine ⟨_, rfl, ?_⟩
    refine hK.out _ _ H2.out (fun hHeld => ?_)
    clear hK K
    refine norm_ (a' := ?_) ?_ ?_
    rotate_left
    ·
     show Act.put _ (some 35) _ = _
     simp only [pw]
     rfl
    refine one_ (i := 9) (N := (some 37)) (flg 18 1023) rfl rfl (by kernel_rfl) (by decide) (fun K hK => ?_)
    refine goes_ Tryz.func79 (by kernel_rfl) rfl #[.int .i64 d] (by rfl) rfl rfl (by (try simp only [List.map_toArray, List.map_cons, List.map_nil]); first | done | rfl) ?_
    refine (wide_Of.calls d _ _ we rfl).mono ?_
    rintro e wf ⟨rfl, hb⟩
    replace H2 := am (blk_below H2.out hb)
    replace H4 := am (blk_below H4.out hb)
    replace HB := am (below_step HB.out hb)
    clear hb hHeld
    refine ⟨_, rfl, ?_⟩
    refine hK.out _ _ H2.out (fun hHeld => ?_)
    clear hK K
    refine norm_ (a' := ?_) ?_ ?_
    rotate_left
    ·
     show Act.put _ (some 37) _ = _
     simp only [pw]
     rfl
    refine one_ (i := 10) (N := (some 38)) (flg 18 2047) rfl rfl (by kernel_rfl) (by decide) (fun K hK => ?_)
    refine event_step (v := .slice (some ⟨wf.heap.size, 0, none⟩) 1 1) (w1 := wf.alloc (.cells #[.int .i64 (d / 9223372036854775808), .int .u64 (IntKind.u64.wrap d)] 124)) (by rfl) (by first | (go_simp; done) | (go_simp; rfl)) ?_
    replace H2 := am (blk_alloc H2.out (.cells #[.int .i64 (d / 9223372036854775808), .int .u64 (IntKind.u64.wrap d)] 124))
    replace H4 := am (blk_alloc H4.out (.cells #[.int .i64 (d / 9223372036854775808), .int .u64 (IntKind.u64.wrap d)] 124))
    have HN := am (blk_new wf (.cells #[.int .i64 (d / 9223372036854775808), .int .u64 (IntKind.u64.wrap d)] 124))
    replace HB := am (below_alloc HB.out (.cells #[.int .i64 (d / 9223372036854775808), .int .u64 (IntKind.u64.wrap d)] 124))
    clear hHeld
    generalize wf.alloc (.cells #[.int .i64 (d / 9223372036854775808), .int .u64 (IntKind.u64.wrap d)] 124) = wg at H2 H4 HN HB ⊢
    generalize wf.heap.size = bn at HN ⊢
    refine hK.out _ _ H2.out (fun hHeld => ?_)
    clear hK K
    refine norm_ (a' := ?_) ?_ ?_
    rotate_left
    ·
     show Act.put _ (some 38) _ = _
     simp only [pw]
     rfl
    refine one_ (i := 11) (N := (some 39)) (flg 18 4095) rfl rfl (by kernel_rfl) (by decide) (fun K hK => ?_)
    refine goes_ Tryz.func97 (by kernel_rfl) rfl #[.int .i64 7, .slice (some ⟨bn, 0, none⟩) 1 1] (by rfl) rfl rfl (by (try simp only [List.map_toArray, List.map_cons, List.map_nil]); first | done | rfl) ?_
    refine (HQ.out bn wg (HG.out.below HB.out) HN.out).mono ?_
    rintro e wh ⟨rfl, hb⟩
    replace H2 := am (blk_below H2.out hb)
    replace H4 := am (blk_below H4.out hb)
    replace HB := am (below_step HB.out hb)
    clear HN
    clear hb hHeld
    refine ⟨_, rfl, ?_⟩
    refine hK.out _ _ H2.out (fun hHeld => ?_)
    clear hK K
    refine norm_ (a' := ?_) ?_ ?_
    rotate_left
    ·
     show Act.put _ (some 39) _ = _
     simp only [pw]
     rfl
    refine pure_ (i := 12) (N := (some 40)) (v := ?_) (a' := ?_) (flg 18 8191) rfl rfl (by kernel_rfl) (fun _ _ _ h => h) (Or.inl ⟨by rfl, ?_⟩) ?_ ?_
    rotate_left
    ·
     intro w'
     go_simp
     with_reducible rfl
    rotate_left
    ·
     simp only [pw]
     rfl
    refine one_ (i := 13) (N := (some 41)) (flg 18 16383) rfl rfl (by kernel_rfl) (by decide) (fun K hK => ?_)
    refine goes_ Tryz.func96 (by kernel_rfl) rfl #[.agg #[.int .i64 x0, .int .i64 x1, .int .i64 x2], .agg #[.int .i64 p, .int .i64 q', .int .i64 0]] (by rfl) rfl rfl (by (try simp only [List.map_toArray, List.map_cons, List.map_nil]); first | done | rfl) ?_
    refine (HA.out wh (HG.out.below HB.out)).mono ?_
    rintro e wi ⟨rfl, hb⟩
    replace H2 := am (blk_below H2.out hb)
    replace H4 := am (blk_below H4.out hb)
    replace HB := am (below_step HB.out hb)
    clear hb hHeld
    refine ⟨_, rfl, ?_⟩
    refine hK.out _ _ H2.out (fun hHeld => ?_)
    clear hK K
    refine norm_ (a' := ?_) ?_ ?_
    rotate_left
    ·
     show Act.put _ (some 41) _ = _
     simp only [pw]
     rfl
    refine pure_ (i := 14) (N := (some 42)) (v := ?_) (a' := ?_) (flg 18 32767) rfl rfl (by kernel_rfl) (fun _ _ _ h => h) (Or.inl ⟨by rfl, ?_⟩) ?_ ?_
    rotate_left
    ·
     intro w'
     go_simp
     with_reducible rfl
    rotate_left
    ·
     simp only [pw]
     rfl
    refine pure_ (i := 15) (N := (some 43)) (v := ?_) (a' := ?_) (flg 18 65535) rfl rfl (by kernel_rfl) (fun _ _ _ h => h) (Or.inl ⟨by rfl, ?_⟩) ?_ ?_
    rotate_left
    ·
     intro w'
     go_simp
     with_reducible rfl
    rotate_left
    ·
     simp only [pw]
     rfl
    have y40 := bcv H4.out 0 (.int .i64 0) rfl
    have f40 := bfz H4.out 0
    have y41 := bcv H4.out 1 (.int .i64 0) rfl
    have f41 := bfz H4.out 1
    have y42 := bcv H4.out 2 (.int .i64 0) rfl
    have f42 := bfz H4.out 2
    refine one_ (i := 16) (N := none) (flg 18 131071) rfl rfl (by kernel_rfl) (by decide) (fun K hK => ?_)
    refine skip_ (w1 := ((wi.setCell ⟨b4, 0, none⟩ (.int .i64 r0)).setCell ⟨b4, 1, none⟩ (.int .i64 r1)).setCell ⟨b4, 2, none⟩ (.int .i64 r2)) (by rfl) rfl (by first | (go_simp; done) | (go_simp; rfl)) ?_
    obtain ⟨q, qb⟩ := three_set rfl H4.out g4 HB.out (.int .i64 r0) (.int .i64 r1) (.int .i64 r2)
    have q2 := blk_far (blk_far (blk_far H2.out (p := ⟨b4, 0, none⟩) ne (.int .i64 r0)) (p := ⟨b4, 1, none⟩) ne (.int .i64 r1)) (p := ⟨b4, 2, none⟩) ne (.int .i64 r2)
    clear hHeld y40 y41 y42 f40 f41 f42 H2 H4 HB
    generalize ((wi.setCell ⟨b4, 0, none⟩ (.int .i64 r0)).setCell ⟨b4, 1, none⟩ (.int .i64 r1)).setCell ⟨b4, 2, none⟩ (.int .i64 r2) = wj at q qb q2 ⊢
    have H2 := am q2
    have H4 := am q
    have HB := am qb
    clear q qb q2
    refine hK.out _ _ H2.out (fun hHeld => ?_)
    clear hK K
    refine pure_ (i := 17) (N := (some 5)) (v := ?_) (a' := ?_) (flg 18 262143) rfl rfl (by kernel_rfl) (fun _ _ _ h => h) (Or.inl ⟨by rfl, ?_⟩) ?_ ?_
    rotate_left
    ·
     intro w'
     go_simp
     with_reducible rfl
    rotate_left
    ·
     simp only [pw]
     rfl
    refine done_ (by kernel_rfl) ?_
    go_wp2_with fail
    exact bodyPost_ret (results_ct rfl _ _ b4 26 _ (0, 0) _ rfl H4.out Tryz.underlying26 rfl (by kernel_rfl)) rfl ⟨rfl, HB.out⟩
   ·
    have q1 : (e0 == 0) = false := by simp [h0]
    have q2 : decide (e0 = 0) = false := decide_eq_false h0
    refine ⟨0, 0, 0, e0, fun w hG => ?_⟩
    have HG := am hG
    clear hG
    unfold vec
    go_enter Tryz.func67, Tryz.ntmps67
    go_upto_region 1 with fail
    obtain ⟨x2', x4', hB⟩ := blocks2 w #[.int .i64 x0, .int .i64 x1, .int .i64 x2] #[.int .i64 0, .int .i64 0, .int .i64 0] 26 26
    generalize (w.alloc (.cells #[.int .i64 x0, .int .i64 x1, .int .i64 x2] 26)).alloc (.cells #[.int .i64 0, .int .i64 0, .int .i64 0] 26) = w1 at x2' x4' hB ⊢
    obtain ⟨b2, h2⟩ : ∃ b, b = w.heap.size := ⟨_, rfl⟩
    obtain ⟨b4, h4⟩ : ∃ b, b = w.heap.size + 1 := ⟨_, rfl⟩
    have g4 : w.heap.size ≤ b4 := by omega
    have ne : b2 ≠ b4 := by omega
    rw [← h4, ← h2]
    rw [← h4] at x4'
    rw [← h2] at x2'
    have H2 := am x2'
    have H4 := am x4'
    have HB := am hB
    clear x2' x4' hB h2 h4
    have y20 := bcv H2.out 0 (.int .i64 x0) rfl
    have y21 := bcv H2.out 1 (.int .i64 x1) rfl
    have y22 := bcv H2.out 2 (.int .i64 x2) rfl
    go_wp2_with fail
    refine (HF.out w1 (HG.out.below HB.out)).mono ?_
    rintro e w2 ⟨rfl, hb⟩
    clear y20 y21 y22
    replace H2 := am (blk_below H2.out hb)
    replace H4 := am (blk_below H4.out hb)
    replace HB := am (below_step HB.out hb)
    clear hb
    have y20 := bcv H2.out 0 (.int .i64 x0) rfl
    have y21 := bcv H2.out 1 (.int .i64 x1) rfl
    have y22 := bcv H2.out 2 (.int .i64 x2) rfl
    have y40 := bcv H4.out 0 (.int .i64 0) rfl
    have f40 := bfz H4.out 0
    have y41 := bcv H4.out 1 (.int .i64 0) rfl
    have f41 := bfz H4.out 1
    have y42 := bcv H4.out 2 (.int .i64 0) rfl
    have f42 := bfz H4.out 2
    go_wp2_with fail
    refine (fits_any w2 th).mono ?_
    rintro e w3 ⟨rfl, rfl⟩
    rw [HT.out]
    go_wp2_with fail
    refine (HS.out _ (HG.out.below HB.out)).mono ?_
    rintro e w4 ⟨rfl, hb⟩
    clear y20 y21 y22 y40 y41 y42 f40 f41 f42
    replace H2 := am (blk_below H2.out hb)
    replace H4 := am (blk_below H4.out hb)
    replace HB := am (below_step HB.out hb)
    clear hb
    have y40 := bcv H4.out 0 (.int .i64 0) rfl
    have f40 := bfz H4.out 0
    have y41 := bcv H4.out 1 (.int .i64 0) rfl
    have f41 := bfz H4.out 1
    have y42 := bcv H4.out 2 (.int .i64 0) rfl
    have f42 := bfz H4.out 2
    go_wp2_with fail
    obtain ⟨q, qb⟩ := three_set rfl H4.out g4 HB.out (.int .i64 0) (.int .i64 0) (.int .i64 0)
    exact bodyPost_ret (results_ct rfl _ _ b4 26 _ (0, 0) _ rfl q Tryz.underlying26 rfl (by kernel_rfl)) rfl ⟨rfl, qb⟩
end Go.Proofs.YtpdahkgandaabaaGreatDoor.Ch
