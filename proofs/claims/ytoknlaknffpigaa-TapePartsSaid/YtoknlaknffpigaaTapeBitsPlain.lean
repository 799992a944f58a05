/- What the document's bits and eight bytes are (layer 21), in plain numbers. -/
import Derived.Test.YtoknlaknffpigaaTapePut
import Derived.Test.YtoknlaknffpigaaTapeBits
namespace Go.Proofs.Ytoknlaknffpigaa.Tp
open Go.RowKit Go.Proofs.YtoknlaknffpigaaW.PrintWords Go.Proofs.YtoknlaknffpigaaW.PrintLast Go.Proofs.YtoknlaknffpigaaW.PrintMore Go.Proofs.Ytoknlaknffpigaa.PTapePuts Go.Proofs.Ytoknlaknffpigaa.Tm

theorem rnumber_step (k : Nat) (x : Int) (bs : List Int) (i : Nat) (hi : i < 8) (h0 : 0 ≤ x) (h1 : x < 18446744073709551616) (hl : bs.length ≤ 100000) :
    aneroidref21_number.l0 (k + 1) x (strOfNums bs) (i : Int) = aneroidref21_number.l0 k (x / 256) (strOfNums (bs ++ [x % 256])) ((i + 1 : Nat) : Int) := by
  have e2 : wrap64 ((i : Int) + 1) = ((i + 1 : Nat) : Int) := by rw [w64 (by omega) (by omega)]; omega
  have e3 : Int.tmod x 256 % 256 = x % 256 := by rw [Int.tmod_eq_emod_of_nonneg h0]; omega
  have e4 : IntKind.u64.wrap (Int.tdiv x 256) = x / 256 := by rw [IntKind.wrap_u64, Int.tdiv_eq_ediv_of_nonneg h0]; omega
  rw [aneroidref21_number.l0, if_pos (by omega), Option.bind_some, strOfNums_size, strOfNums_size, if_pos (by simp; omega), e2, e3, e4, str_app]

theorem rnumber_f (k : Nat) (x : Int) : aneroidref21_number.f (k + 9) x = some (strOfNums (le8 x)) := by
  have s := fun (k i : Nat) (x : Int) (bs : List Int) (hi : i < 8) (h0 : 0 ≤ x) (h1 : x < 18446744073709551616) (hl : bs.length ≤ 100000) => rnumber_step k x bs i hi h0 h1 hl
  unfold aneroidref21_number.f
  rw [IntKind.wrap_u64, str_nil, show (0 : Int) = ((0 : Nat) : Int) from rfl]
  generalize hy : x % 18446744073709551616 = y
  have hy0 : 0 ≤ y ∧ y < 18446744073709551616 := by omega
  rw [show k + 9 = k + 8 + 1 by omega, s (k + 8) 0 _ _ (by omega) (by omega) (by omega) (by simp), s (k + 7) 1 _ _ (by omega) (by omega) (by omega) (by simp), s (k + 6) 2 _ _ (by omega) (by omega) (by omega) (by simp),
    s (k + 5) 3 _ _ (by omega) (by omega) (by omega) (by simp), s (k + 4) 4 _ _ (by omega) (by omega) (by omega) (by simp), s (k + 3) 5 _ _ (by omega) (by omega) (by omega) (by simp),
    s (k + 2) 6 _ _ (by omega) (by omega) (by omega) (by simp), s (k + 1) 7 _ _ (by omega) (by omega) (by omega) (by simp), aneroidref21_number.l0, if_neg (by omega)]
  congr 2
  unfold le8
  rw [hy]
  simp only [List.nil_append, List.cons_append, List.cons.injEq, and_true]
  refine ⟨trivial, trivial, by omega, by omega, by omega, by omega, by omega, by omega⟩

theorem bit_one (b : Bool) : aneroidref21_bit.f 1 b = some (b1 b) := by cases b <;> rfl
theorem bit_two (b : Bool) : aneroidref21_bit.f 2 b = some (2 * b1 b) := by cases b <;> rfl
end Go.Proofs.Ytoknlaknffpigaa.Tp
