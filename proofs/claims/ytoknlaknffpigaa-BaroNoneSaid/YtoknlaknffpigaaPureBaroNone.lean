/- A tick whose count isn't good brings what one without does: the printed function of the law BaroNone answers true, for all arguments. -/
import Derived.Test.YtoknlaknffpigaaPBaroNonex1
namespace Go.Proofs.Ytoknlaknffpigaa.Pure
open Go.RowKit Go.Proofs.Ytoknlaknffpigaa.PBaroNone Go.Proofs.YtoknlaknffpigaaW.PrintWords Go.Proofs.YtoknlaknffpigaaW.PrintLast
namespace Bn
def ok (x : Int) : Bool := decide (90528 ≤ x ∧ x ≤ 430515)
theorem atmos_good (x : Int) : atmos_Good.f x = some (ok x) := by
  unfold atmos_Good.f ok
  by_cases h : 90528 ≤ x
  · rw [if_pos h]
    by_cases h2 : x ≤ 430515 <;> simp [h, h2]
  · rw [if_neg h]
    simp [h]
theorem brings (a : Int) (h : Bool) (c : Int) (s : Bool) : baro_Brings.f a h c s = some (if h && ok c then (c, true) else (0, false)) := by
  unfold baro_Brings.f baro_kind.f
  rw [atmos_good]
  cases h <;> cases ok c <;> rfl
end Bn
theorem BaroNone (a : Int) (h : Bool) (c : Int) (s : Bool) (a1 : Int) (a2 : Bool) : aneroidlaw16_BaroNone.f a h c s a1 a2 = some true := by
  unfold aneroidlaw16_BaroNone.f aneroidlaw16_fixed.f
  simp only [Bn.brings, Option.bind_some]
  have e1 : Bn.ok 400000 = true := by decide
  have e2 : Bn.ok 1 = false := by decide
  rw [e1, e2]
  cases h <;> cases Bn.ok c <;> simp
end Go.Proofs.Ytoknlaknffpigaa.Pure
