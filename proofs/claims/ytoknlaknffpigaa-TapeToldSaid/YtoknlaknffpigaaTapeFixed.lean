/- The chapter's example of layer 21: the walk of the law package's fixed example. -/
import Derived.Test.YtoknlaknffpigaaTapePut
namespace Go.Proofs.Ytoknlaknffpigaa.Tp
open Go.RowKit Go.Proofs.YtoknlaknffpigaaW.PrintWords Go.Proofs.YtoknlaknffpigaaW.PrintLast Go.Proofs.YtoknlaknffpigaaW.PrintMore Go.Proofs.Ytoknlaknffpigaa.PTapePuts Go.Proofs.Ytoknlaknffpigaa.Tm
set_option linter.unusedVariables false
set_option linter.unusedSimpArgs false

theorem tick_block {w : World} {g t : Nat} {a c : Int} {b d : Bool} (h : w.heap[g]? = some (.cells #[.int .i64 a, .bool b, .int .i64 c, .bool d] t (0, 0))) : Kd.C k33 w (some ⟨g, 0, none⟩) 1 [⟨a, b, c, d⟩] := by
  refine ⟨rfl, by simp, fun _ => ⟨_, rfl, fun j p hj => ⟨[.int .i64 a, .bool b, .int .i64 c, .bool d], rfl, ?_, fun i u hu => ?_⟩⟩⟩
  · have hj0 : j = 0 := by
      have := (List.getElem?_eq_some_iff.1 hj).1
      simpa using this
    subst hj0
    obtain rfl : p = ⟨a, b, c, d⟩ := by simpa using hj.symm
    exact k33_mk w _
  · have hj0 : j = 0 := by
      have := (List.getElem?_eq_some_iff.1 hj).1
      simpa using this
    subst hj0
    rw [Nat.zero_mul, Nat.zero_add, add_plain, blk_cell h]
    simpa using hu

set_option maxRecDepth 100000 in
set_option maxHeartbeats 4000000 in
theorem fixed_any (w : World) : Calls Try.prog 39 #[] w fun e w' => e = .returned (.bool true) ∧ Below w.heap.size w w' := by
  go_enter Try.func39, Try.ntmps39
  go_wp2_with fail
  refine (put_any _ (some ⟨w.heap.size, 0, none⟩) 1 [⟨1, false, 0, false⟩] (tick_block (blk_new w _)) (by simp)).mono ?_
  rintro e w1 ⟨v, rfl, ho, hb⟩
  have hp : put [⟨1, false, 0, false⟩] = ([0, 1, 0, 0, 0, 0, 0, 0, 0], 0) := by decide +kernel
  rw [hp] at ho ⊢
  have HB := Aside0.mk (below_step (below_alloc (Below.refl _ w) _) hb)
  obtain ⟨A1, c1, rfl, _, hC⟩ := Kd.R_reads ho
  have hcv := Kd.C_string (P := Try.prog) (n := 9) (c := c1) Try.underlying68 Try.underlying5 Try.underlying9 hC
  have hst : ((strOfNums [0, 1, 0, 0, 0, 0, 0, 0, 0]).toList == ([0, 1, 0, 0, 0, 0, 0, 0, 0] : List UInt8)) = true := by decide +kernel
  clear hb ho hC hp
  go_wp2_with fail
  go_ret
  exact ⟨rfl, HB.out⟩
end Go.Proofs.Ytoknlaknffpigaa.Tp
