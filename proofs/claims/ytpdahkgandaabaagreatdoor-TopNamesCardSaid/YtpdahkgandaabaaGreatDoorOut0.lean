/- The number 0 that goes out (layers 1, 2): the walks of Half and Out over 0. -/
import Derived.Test.YtpdahkgandaabaaGreatDoorBase
import Derived.Test.YtpdahkgandaabaaGreatDoorConf
namespace Go.Proofs.YtpdahkgandaabaaGreatDoor.Ch
open Go.RowKit Go.Proofs.YtpdahkgandaabaaGreatDoorW.PrintWords Go.Proofs.YtpdahkgandaabaaGreatDoorW.PrintLast Go.Proofs.YtpdahkgandaabaaGreatDoorW.PrintMore Go.Proofs.YtpdahkgandaabaaGreatDoor.PTopNames
set_option linter.unusedVariables false
set_option linter.unusedSimpArgs false

set_option maxRecDepth 100000 in
set_option maxHeartbeats 4000000 in
theorem half_zero (w : World) : Calls Tryz.prog 78 #[.agg #[.int .i64 0, .int .u64 0], .int .i64 24] w fun e w' => e = .returned (.tuple #[.agg #[.int .i64 0, .int .u64 0], .int .i64 0]) ∧ Below w.heap.size w w' := by
  go_enter Tryz.func78, Tryz.ntmps78
  go_upto_region 1 with fail
  obtain ⟨x2, x3, hB⟩ := blocks2 w #[.int .i64 0, .int .u64 0] #[.int .i64 0, .int .u64 0] 124 124
  generalize (w.alloc (.cells #[.int .i64 0, .int .u64 0] 124)).alloc (.cells #[.int .i64 0, .int .u64 0] 124) = w1 at x2 x3 hB ⊢
  obtain ⟨b2, h2⟩ : ∃ b, b = w.heap.size := ⟨_, rfl⟩
  obtain ⟨b4, h4⟩ : ∃ b, b = w.heap.size + 1 := ⟨_, rfl⟩
  have g2 : w.heap.size ≤ b2 := by omega
  have g4 : w.heap.size ≤ b4 := by omega
  have ne : b2 ≠ b4 := by omega
  rw [← h4, ← h2]
  rw [← h4] at x3
  rw [← h2] at x2
  have HX := Aside0.mk x2
  have HY := Aside0.mk x3
  have HB := Aside0.mk hB
  clear x2 x3 hB h2 h4
  go_wp2_with fail
  go_loopw [6, 7, 16] (fun v6 v7 v16 wr => ∃ k : Nat, k ≤ 24 ∧ v6 = .int .u64 0 ∧ v7 = .int .u64 0 ∧ v16 = .int .i64 k ∧ Aside0 (wr.heap[b2]? = some (.cells #[.int .i64 0, .int .u64 0] 124 (0, 0))) ∧ Aside0 (wr.heap[b4]? = some (.cells #[.int .i64 0, .int .u64 0] 124 (0, 0))) ∧ Aside0 (Below w.heap.size w wr)) (fun _ _ v16 _ => 25 - (intOf v16).toNat)
  case atStart => exact ⟨0, by omega, rfl, rfl, rfl, HX, HY, HB⟩
  case round =>
    clear HX HY HB
    obtain ⟨k, hk, rfl, rfl, rfl, HX, HY, HB⟩ := hrel
    have y0 : wr.cell? ⟨b2, 0, none⟩ = some (.int .i64 0) := (blk_cell HX.out 0).trans rfl
    have y1 : wr.cell? ⟨b2, 1, none⟩ = some (.int .u64 0) := (blk_cell HX.out 1).trans rfl
    have f0 := blk_frozen HX.out 0
    have f1 := blk_frozen HX.out 1
    by_cases hlt : k < 24
    · have q0 : decide ((k : Int) < 24) = true := decide_eq_true (by omega)
      go_wp2_with fail
      refine (wide_down.calls 0 0 0 0 0 wr (by decide)).mono ?_
      rintro e w2 ⟨rfl, hb⟩
      replace HX := Aside0.mk (blk_below HX.out hb)
      replace HY := Aside0.mk (blk_below HY.out hb)
      replace HB := Aside0.mk (below_step HB.out hb)
      clear hb y0 y1 f0 f1
      have y0 : w2.cell? ⟨b2, 0, none⟩ = some (.int .i64 0) := (blk_cell HX.out 0).trans rfl
      have y1 : w2.cell? ⟨b2, 1, none⟩ = some (.int .u64 0) := (blk_cell HX.out 1).trans rfl
      have f0 := blk_frozen HX.out 0
      have f1 := blk_frozen HX.out 1
      go_wp2_with fail
      have q := blk_set (blk_set HX.out 0 (.int .i64 0)) 1 (.int .u64 0)
      have q2 := blk_far (blk_far HY.out (p := ⟨b2, 0, none⟩) (Ne.symm ne) (.int .i64 0)) (p := ⟨b2, 1, none⟩) (Ne.symm ne) (.int .u64 0)
      have q3 := (HB.out.setCell (p := ⟨b2, 0, none⟩) g2 (.int .i64 0)).setCell (p := ⟨b2, 1, none⟩) g2 (.int .u64 0)
      go_roundw
      case rel => exact ⟨k + 1, hlt, rfl, rfl, rfl, ⟨q⟩, ⟨q2⟩, ⟨q3⟩⟩
      case measure => simp [intOf]; omega
    · have q0 : decide ((k : Int) < 24) = false := decide_eq_false (by omega)
      have z0 : wr.cell? ⟨b4, 0, none⟩ = some (.int .i64 0) := (blk_cell HY.out 0).trans rfl
      have z1 : wr.cell? ⟨b4, 1, none⟩ = some (.int .u64 0) := (blk_cell HY.out 1).trans rfl
      have e0 := blk_frozen HY.out 0
      have e1 := blk_frozen HY.out 1
      go_wp2_with fail
      have q := blk_set (blk_set HY.out 0 (.int .i64 0)) 1 (.int .u64 0)
      have q3 := (HB.out.setCell (p := ⟨b4, 0, none⟩) g4 (.int .i64 0)).setCell (p := ⟨b4, 1, none⟩) g4 (.int .u64 0)
      generalize (wr.setCell ⟨b4, 0, none⟩ (.int .i64 0)).setCell ⟨b4, 1, none⟩ (.int .u64 0) = wz at q q3 ⊢
      have r0 : wz.cell? ⟨b4, 0, none⟩ = some (.int .i64 0) := (blk_cell q 0).trans rfl
      have r1 : wz.cell? ⟨b4, 1, none⟩ = some (.int .u64 0) := (blk_cell q 1).trans rfl
      refine ⟨rfl, .tuple #[.agg #[.int .i64 0, .int .u64 0], .int .i64 0], ?_, rfl, q3⟩
      simp [results, Tryz.results78, go_sem, r0, r1]

set_option maxRecDepth 100000 in
set_option maxHeartbeats 4000000 in
theorem out_zero (w : World) : Calls Tryz.prog 30 #[.int .i64 0] w fun e w' => e = .returned (.int .i64 0) ∧ Below w.heap.size w w' := by
  go_enter Tryz.func30, Tryz.ntmps30
  go_wp2_with fail
  refine (wide_Of.calls 0 0 0 w (by decide)).mono ?_
  rintro e w1 ⟨rfl, hb⟩
  have HB := Aside0.mk hb
  clear hb
  go_wp2_with fail
  refine (half_zero w1).mono ?_
  rintro e w2 ⟨rfl, hb⟩
  replace HB := Aside0.mk (below_step HB.out hb)
  clear hb
  go_wp2_with fail
  refine (wide_Int.calls 0 0 0 0 _ (by kernel_rfl)).mono ?_
  rintro e w3 ⟨rfl, hb⟩
  replace HB := Aside0.mk (below_step (below_alloc HB.out _) hb)
  clear hb
  go_wp2_with fail
  go_ret
  exact ⟨rfl, HB.out⟩
end Go.Proofs.YtpdahkgandaabaaGreatDoor.Ch
