/- What the functions numbers and flags of layer 21 compute, in plain numbers. -/
import Derived.Test.YtoknlaknffpigaaPTapePutsx2
import Derived.Test.YtoknlaknffpigaaTapeMath
namespace Go.Proofs.Ytoknlaknffpigaa.Tm
open Go.RowKit Go.Proofs.YtoknlaknffpigaaW.PrintWords Go.Proofs.YtoknlaknffpigaaW.PrintLast Go.Proofs.YtoknlaknffpigaaW.PrintMore Go.Proofs.Ytoknlaknffpigaa.PTapePuts

def byteOf (x : Int) (i : Nat) : Int := x % 18446744073709551616 / 2 ^ (8 * i) % 256
theorem le8_eq (x : Int) : le8 x = [byteOf x 0, byteOf x 1, byteOf x 2, byteOf x 3, byteOf x 4, byteOf x 5, byteOf x 6, byteOf x 7] := by
  simp only [le8, byteOf, Nat.mul_zero, Nat.reduceMul, Int.reducePow]
  simp

theorem numbers_step (k : Nat) (x0 : List Int) (x6 : Int) (x8 : List Int) (x9 x10 : Int) (i : Nat) (hi : i < 8) (hx : x0.length < 140737488355328) :
    tape_numbers.l1 (k + 1) x0 x6 x8 x9 x10 (i : Int) = tape_numbers.l1 k (x0 ++ [byteOf x6 i]) x6 x8 x9 x10 ((i + 1 : Nat) : Int) := by
  have e1 : wrap64 (8 * (i : Int)) = 8 * (i : Int) := w64 (by omega) (by omega)
  have e2 : wrap64 ((i : Int) + 1) = ((i + 1 : Nat) : Int) := by rw [w64 (by omega) (by omega)]; omega
  rw [tape_numbers.l1, if_pos (by omega), e1, if_pos (by omega), if_pos hx, e2, IntKind.wrap_u64, shr_u64 _ _ hi]
  rfl

theorem numbers_one (k : Nat) (x0 : List Int) (x6 : Int) (x8 : List Int) (x9 x10 : Int) (hx : x0.length + 8 < 140737488355328) :
    tape_numbers.l1 (k + 9) x0 x6 x8 x9 x10 0 = tape_numbers.l0 k (x0 ++ le8 x6) x8 x9 (wrap64 (x10 + 1)) := by
  have s := fun (k : Nat) (y : List Int) (i : Nat) (hi : i < 8) (hy : y.length < 140737488355328) => numbers_step k y x6 x8 x9 x10 i hi hy
  rw [show (0 : Int) = ((0 : Nat) : Int) from rfl, s (k + 8) _ 0 (by omega) (by omega), s (k + 7) _ 1 (by omega) (by simp; omega), s (k + 6) _ 2 (by omega) (by simp; omega), s (k + 5) _ 3 (by omega) (by simp; omega),
    s (k + 4) _ 4 (by omega) (by simp; omega), s (k + 3) _ 5 (by omega) (by simp; omega), s (k + 2) _ 6 (by omega) (by simp; omega), s (k + 1) _ 7 (by omega) (by simp; omega), tape_numbers.l1, if_neg (by omega), le8_eq]
  simp only [List.append_assoc, List.cons_append, List.nil_append]

theorem numbers_all (k : Nat) (l1 : List Int) : ∀ (n : Nat) (x0 : List Int) (j : Nat), j + n = l1.length → l1.length ≤ 1000 → x0.length + 8 * n < 140737488355328 →
    tape_numbers.l0 (k + 10 * n + 1) x0 l1 (l1.length : Int) (j : Int) = some (x0 ++ (l1.drop j).flatMap le8) := by
  intro n
  induction n with
  | zero =>
    intro x0 j hj _ _
    rw [tape_numbers.l0, if_neg (by omega), List.drop_eq_nil_of_le (by omega)]
    simp
  | succ n ih =>
    intro x0 j hj hl hx
    have e : k + 10 * (n + 1) + 1 = ((k + 10 * n + 1) + 9) + 1 := by omega
    have e2 : wrap64 ((j : Int) + 1) = ((j + 1 : Nat) : Int) := by rw [w64 (by omega) (by omega)]; omega
    rw [e, tape_numbers.l0, if_pos (by omega), if_pos (by omega), if_pos (by omega), numbers_one _ _ _ _ _ _ (by omega), e2, ih _ (j + 1) (by omega) hl (by rw [List.length_append, le8_length]; omega)]
    have hd : l1.drop j = rd l1 (j : Int) :: l1.drop (j + 1) := by
      rw [List.drop_eq_getElem_cons (by omega)]
      congr 1
      unfold rd
      rw [Int.toNat_natCast, List.getD_eq_getElem?_getD, List.getElem?_eq_getElem (by omega), Option.getD_some]
    rw [hd, List.flatMap_cons, List.append_assoc]

theorem numbers_f (l0 l1 : List Int) (h0 : l0.length + 8 * l1.length < 140737488355328) (h1 : l1.length ≤ 1000) : tape_numbers.f (10 * l1.length + 1) l0 l1 = some (l0 ++ l1.flatMap le8) := by
  have h := numbers_all 0 l1 l1.length l0 0 (by omega) h1 h0
  rw [List.drop_zero, Nat.zero_add] at h
  exact h

def b1 (b : Bool) : Int := if b then 1 else 0
theorem flags_two : ∀ a b : Bool, tape_flags.f 4 [a, b] = some (b1 a + 2 * b1 b) := by decide +kernel
end Go.Proofs.Ytoknlaknffpigaa.Tm
