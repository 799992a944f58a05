/- The usual configuration (layer 13), and the check of it. -/
import Derived.Test.YtpdahkgandaabaaGreatDoorCheck
namespace Go.Proofs.YtpdahkgandaabaaGreatDoor.Ch
open Go.RowKit Go.Proofs.YtpdahkgandaabaaGreatDoorW.PrintWords Go.Proofs.YtpdahkgandaabaaGreatDoorW.PrintLast Go.Proofs.YtpdahkgandaabaaGreatDoorW.PrintMore Go.Proofs.YtpdahkgandaabaaGreatDoor.PTopNames
set_option linter.unusedVariables false
set_option linter.unusedSimpArgs false

def dflt : Cf := ⟨1024, 65536, 256, 16384, 4194304, 4096, 274877906944, 4398046511104, 4398046511104, 1099511627776, 68719476736, 256, 256, 256, 1125899906842624, 281474976710656, 17592186044416, 18014398509481984, 562949953421312, 8796093022208, 9, 34359738368, 17179869184, (-1073741824), 536870912, 2048, 32768, 32, 64, 1280, 240⟩
theorem dflt_ok : checkR dflt = 0 := by decide +kernel
def dfltV : Array Value := #[.int .i64 1024, .int .i64 65536, .int .i64 256, .int .i64 16384, .int .i64 4194304, .int .i64 4096, .int .i64 274877906944, .int .i64 4398046511104, .int .i64 4398046511104, .int .i64 1099511627776, .int .i64 68719476736, .int .i64 256, .int .i64 256, .int .i64 256, .int .i64 1125899906842624, .int .i64 281474976710656, .int .i64 17592186044416, .int .i64 18014398509481984, .int .i64 562949953421312, .int .i64 8796093022208, .int .i64 9, .int .i64 34359738368, .int .i64 17179869184, .int .i64 (-1073741824), .int .i64 536870912, .int .i64 2048, .int .i64 32768, .int .i64 32, .int .i64 64, .int .i64 1280, .int .i64 240]
theorem dflt_v : dflt.v = dfltV := by kernel_rfl
def zeroV : Array Value := #[.int .i64 0, .int .i64 0, .int .i64 0, .int .i64 0, .int .i64 0, .int .i64 0, .int .i64 0, .int .i64 0, .int .i64 0, .int .i64 0, .int .i64 0, .int .i64 0, .int .i64 0, .int .i64 0, .int .i64 0, .int .i64 0, .int .i64 0, .int .i64 0, .int .i64 0, .int .i64 0, .int .i64 0, .int .i64 0, .int .i64 0, .int .i64 0, .int .i64 0, .int .i64 0, .int .i64 0, .int .i64 0, .int .i64 0, .int .i64 0, .int .i64 0]
set_option maxRecDepth 100000 in
set_option maxHeartbeats 4000000 in
theorem default_any (w : World) : Calls Tryz.prog 18 #[] w fun e w' => e = .returned (.agg dflt.v) ∧ Below w.heap.size w w' := by
  rw [dflt_v]
  have HB := Aside0.mk (below_alloc (Below.refl w.heap.size w) (.cells dfltV 28))
  go_enter Tryz.func18, Tryz.ntmps18
  go_upto_region 1 with fail
  iterate 26 go_step
  refine wp_store_row 28 (.tmp 0) (.tmp 8) rfl w.heap.size dfltV rfl rfl 28 zeroV (heap_alloc_last w _) (by kernel_rfl) (by kernel_rfl) (by kernel_rfl) ?_
  rw [show (w.alloc (.cells #[.int .i64 0, .int .i64 0, .int .i64 0, .int .i64 0, .int .i64 0, .int .i64 0, .int .i64 0, .int .i64 0, .int .i64 0, .int .i64 0, .int .i64 0, .int .i64 0, .int .i64 0, .int .i64 0, .int .i64 0, .int .i64 0, .int .i64 0, .int .i64 0, .int .i64 0, .int .i64 0, .int .i64 0, .int .i64 0, .int .i64 0, .int .i64 0, .int .i64 0, .int .i64 0, .int .i64 0, .int .i64 0, .int .i64 0, .int .i64 0, .int .i64 0] 28)).setRow w.heap.size dfltV = w.alloc (.cells dfltV 28) from World.setRow_alloc_new w _ _ _]
  go_wp2_with fail
  refine bodyPost_ret (v := .agg dfltV) ?_ rfl ⟨rfl, HB.out⟩
  exact results_cell_row rfl _ _ w.heap.size 28 dfltV (0, 0) _ rfl (heap_alloc_last w _) Tryz.underlying28 rfl (by kernel_rfl)
end Go.Proofs.YtpdahkgandaabaaGreatDoor.Ch
