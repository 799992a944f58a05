/- Plain facts on bytes and whole numbers for the laws of layer 21: eight bytes of a number, the number of eight bytes, and the exclusive or; no program is in sight. -/
import Derived.Laws.BytesArg
import Derived.Laws.BitsAllLaws
import Derived.Laws.Bits64
import Derived.Test.YtoknlaknffpigaaWMore
namespace Go.Proofs.Ytoknlaknffpigaa.Tm
open Go.RowKit Go.Proofs.YtoknlaknffpigaaW.PrintWords Go.Proofs.YtoknlaknffpigaaW.PrintMore

def M : Int := 18446744073709551616
theorem w64 {x : Int} (h0 : -9223372036854775808 ≤ x) (h1 : x ≤ 9223372036854775807) : wrap64 x = x := by
  unfold wrap64
  omega

/-- All numbers of a list are bytes. -/
def Bytes (l : List Int) : Prop := ∀ x ∈ l, 0 ≤ x ∧ x ≤ 255
theorem Bytes.append {a b : List Int} (ha : Bytes a) (hb : Bytes b) : Bytes (a ++ b) := fun x hx => by
  rcases List.mem_append.1 hx with h | h
  · exact ha x h
  · exact hb x h
theorem Bytes.drop {a : List Int} (ha : Bytes a) (n : Nat) : Bytes (a.drop n) := fun x hx => ha x (List.mem_of_mem_drop hx)
theorem Bytes.take {a : List Int} (ha : Bytes a) (n : Nat) : Bytes (a.take n) := fun x hx => ha x (List.mem_of_mem_take hx)
theorem Bytes.at_ {a : List Int} (ha : Bytes a) (i : Int) : 0 ≤ rd a i ∧ rd a i ≤ 255 := by
  unfold rd
  rw [List.getD_eq_getElem?_getD]
  rcases Nat.lt_or_ge i.toNat a.length with h | h
  · rw [List.getElem?_eq_getElem h]
    exact ha _ (List.getElem_mem h)
  · rw [List.getElem?_eq_none h]
    simp

/-- A number's eight bytes. -/
def le8 (x : Int) : List Int :=
  [x % 18446744073709551616 % 256, x % 18446744073709551616 / 256 % 256, x % 18446744073709551616 / 65536 % 256, x % 18446744073709551616 / 16777216 % 256, x % 18446744073709551616 / 4294967296 % 256,
    x % 18446744073709551616 / 1099511627776 % 256, x % 18446744073709551616 / 281474976710656 % 256, x % 18446744073709551616 / 72057594037927936 % 256]
theorem le8_length (x : Int) : (le8 x).length = 8 := rfl
theorem le8_bytes (x : Int) : Bytes (le8 x) := by
  intro y hy
  simp only [le8, List.mem_cons, List.not_mem_nil, or_false] at hy
  omega

/-- The sum of eight bytes' numbers. -/
def val8 (b : List Int) : Int :=
  rd b 0 + 256 * rd b 1 + 65536 * rd b 2 + 16777216 * rd b 3 + 4294967296 * rd b 4 + 1099511627776 * rd b 5 + 281474976710656 * rd b 6 + 72057594037927936 * rd b 7
theorem val8_range {b : List Int} (h : Bytes b) : 0 ≤ val8 b ∧ val8 b < 18446744073709551616 := by
  unfold val8
  have h0 := h.at_ 0
  have h1 := h.at_ 1
  have h2 := h.at_ 2
  have h3 := h.at_ 3
  have h4 := h.at_ 4
  have h5 := h.at_ 5
  have h6 := h.at_ 6
  have h7 := h.at_ 7
  omega

theorem rd_app (a b : List Int) (i : Int) (h : i.toNat < a.length) : rd (a ++ b) i = rd a i := by
  unfold rd
  rw [List.getD_eq_getElem?_getD, List.getD_eq_getElem?_getD, List.getElem?_append_left h]
theorem rd_app2 (a b : List Int) (i : Int) (h : 0 ≤ i) : rd (a ++ b) ((a.length : Int) + i) = rd b i := by
  unfold rd
  rw [List.getD_eq_getElem?_getD, List.getD_eq_getElem?_getD, List.getElem?_append_right (by omega)]
  congr 2
  omega

theorem lt8 (x : Int) (i : Int) (h : i.toNat < 8) : i.toNat < (le8 x).length := h
theorem val8_le8 (x : Int) (rest : List Int) : val8 (le8 x ++ rest) = x % 18446744073709551616 := by
  unfold val8
  simp only [rd_app (le8 x) rest 0 (lt8 x 0 (by decide)), rd_app (le8 x) rest 1 (lt8 x 1 (by decide)), rd_app (le8 x) rest 2 (lt8 x 2 (by decide)), rd_app (le8 x) rest 3 (lt8 x 3 (by decide)), rd_app (le8 x) rest 4 (lt8 x 4 (by decide)), rd_app (le8 x) rest 5 (lt8 x 5 (by decide)), rd_app (le8 x) rest 6 (lt8 x 6 (by decide)), rd_app (le8 x) rest 7 (lt8 x 7 (by decide))]
  have e0 : rd (le8 x) 0 = x % 18446744073709551616 % 256 := rfl
  have e1 : rd (le8 x) 1 = x % 18446744073709551616 / 256 % 256 := rfl
  have e2 : rd (le8 x) 2 = x % 18446744073709551616 / 65536 % 256 := rfl
  have e3 : rd (le8 x) 3 = x % 18446744073709551616 / 16777216 % 256 := rfl
  have e4 : rd (le8 x) 4 = x % 18446744073709551616 / 4294967296 % 256 := rfl
  have e5 : rd (le8 x) 5 = x % 18446744073709551616 / 1099511627776 % 256 := rfl
  have e6 : rd (le8 x) 6 = x % 18446744073709551616 / 281474976710656 % 256 := rfl
  have e7 : rd (le8 x) 7 = x % 18446744073709551616 / 72057594037927936 % 256 := rfl
  rw [e0, e1, e2, e3, e4, e5, e6, e7]
  omega

/-- The number of eight bytes, as an int64. -/
def num8 (b : List Int) : Int := wrap64 (val8 b)
theorem num8_le8 (x : Int) (rest : List Int) (h0 : -9223372036854775808 ≤ x) (h1 : x ≤ 9223372036854775807) : num8 (le8 x ++ rest) = x := by
  unfold num8
  rw [val8_le8]
  unfold wrap64
  omega
theorem num8_range (b : List Int) : -9223372036854775808 ≤ num8 b ∧ num8 b ≤ 9223372036854775807 := by
  unfold num8 wrap64
  omega
theorem le8_num8 (b : List Int) (hb : Bytes b) (hl : 8 ≤ b.length) : le8 (num8 b) = b.take 8 := by
  match b, hl with
  | b0 :: b1 :: b2 :: b3 :: b4 :: b5 :: b6 :: b7 :: t, _ =>
    have h0 := hb b0 (by simp)
    have h1 := hb b1 (by simp)
    have h2 := hb b2 (by simp)
    have h3 := hb b3 (by simp)
    have h4 := hb b4 (by simp)
    have h5 := hb b5 (by simp)
    have h6 := hb b6 (by simp)
    have h7 := hb b7 (by simp)
    have e : num8 (b0 :: b1 :: b2 :: b3 :: b4 :: b5 :: b6 :: b7 :: t) % 18446744073709551616 = b0 + 256 * b1 + 65536 * b2 + 16777216 * b3 + 4294967296 * b4 + 1099511627776 * b5 + 281474976710656 * b6 + 72057594037927936 * b7 := by
      have e2 : val8 (b0 :: b1 :: b2 :: b3 :: b4 :: b5 :: b6 :: b7 :: t) = b0 + 256 * b1 + 65536 * b2 + 16777216 * b3 + 4294967296 * b4 + 1099511627776 * b5 + 281474976710656 * b6 + 72057594037927936 * b7 := rfl
      unfold num8 wrap64
      rw [e2]
      omega
    unfold le8
    rw [e]
    simp only [List.take_succ_cons, List.take_zero]
    congr 1
    · omega
    congr 1
    · omega
    congr 1
    · omega
    congr 1
    · omega
    congr 1
    · omega
    congr 1
    · omega
    congr 1
    · omega
    congr 1
    omega

/-- 'acc | b << 8i', where acc is below the bits that b is set to. -/
theorem or_step (acc b : Int) (i : Nat) (hi : i < 8) (h0 : 0 ≤ acc) (h1 : acc < 2 ^ (8 * i)) (hb0 : 0 ≤ b) (hb1 : b ≤ 255) :
    Go.bits .or .u64 acc (shl .u64 (IntKind.u64.wrap b) (8 * (i : Int))) = acc + b * 2 ^ (8 * i) := by
  have hs : shl .u64 (IntKind.u64.wrap b) (8 * (i : Int)) = b * 2 ^ (8 * i) := by
    unfold shl
    rw [IntKind.wrap_u64, IntKind.wrap_u64]
    have e : min (8 * (i : Int)).toNat IntKind.u64.bits = 8 * i := by simp [IntKind.bits]; omega
    rw [e]
    have hb : b % 18446744073709551616 = b := by omega
    rw [hb]
    have hp : (2 : Int) ^ (8 * i) ≤ 2 ^ 56 := by
      have : (2 : Nat) ^ (8 * i) ≤ 2 ^ 56 := Nat.pow_le_pow_right (by decide) (by omega)
      exact_mod_cast this
    have hp0 : (0 : Int) < 2 ^ (8 * i) := by
      have : 0 < (2 : Nat) ^ (8 * i) := Nat.two_pow_pos _
      exact_mod_cast this
    have hm : b * 2 ^ (8 * i) ≤ 255 * 2 ^ 56 := Int.mul_le_mul hb1 hp (by omega) (by omega)
    have hm0 : 0 ≤ b * 2 ^ (8 * i) := Int.mul_nonneg hb0 (by omega)
    omega
  rw [hs]
  obtain ⟨a, rfl⟩ := Int.eq_ofNat_of_zero_le h0
  obtain ⟨c, rfl⟩ := Int.eq_ofNat_of_zero_le hb0
  have ha : a < 2 ^ (8 * i) := by exact_mod_cast h1
  have hp : (2 : Nat) ^ (8 * i) ≤ 2 ^ 56 := Nat.pow_le_pow_right (by decide) (by omega)
  have hc : c ≤ 255 := by omega
  have hm : c * 2 ^ (8 * i) ≤ 255 * 2 ^ 56 := Nat.mul_le_mul hc hp
  have ec : ((c : Int) * 2 ^ (8 * i)) = ((c * 2 ^ (8 * i) : Nat) : Int) := by simp
  rw [ec, u64_or_nat a (c * 2 ^ (8 * i)) (by omega) (by omega), Nat.or_comm, nat_join (8 * i) (c * 2 ^ (8 * i)) a (by simp) ha]
  omega

theorem shr_u64 (x : Int) (i : Nat) (hi : i < 8) : shr .u64 x (8 * (i : Int)) = x / 2 ^ (8 * i) := by
  unfold shr
  have e : min (8 * (i : Int)).toNat IntKind.u64.bits = 8 * i := by simp [IntKind.bits]; omega
  rw [e]

theorem str_app (a b : List Int) : strOfNums a ++ strOfNums b = strOfNums (a ++ b) := by
  apply ByteArray.ext
  rw [ByteArray.data_append]
  apply Array.ext'
  simp [strOfNums]
theorem str_nil : (⟨#[]⟩ : ByteArray) = strOfNums [] := rfl
theorem bt_str (l : List Int) (hb : Bytes l) (i : Int) : bt (strOfNums l) i = rd l i := by
  unfold bt rd
  rw [List.getD_eq_getElem?_getD]
  by_cases h : i.toNat < l.length
  · have hs : i.toNat < (strOfNums l).size := by rw [strOfNums_size]; exact h
    rw [dif_pos hs, List.getElem?_eq_getElem h]
    have e : (strOfNums l)[i.toNat] = UInt8.ofNat (l[i.toNat]).toNat := by
      simp [strOfNums, ByteArray.getElem_eq_getElem_data]
    rw [e]
    have hx := hb _ (List.getElem_mem h)
    simp only [Option.getD_some, UInt8.toNat_ofNat']
    omega
  · have hs : ¬ i.toNat < (strOfNums l).size := by rw [strOfNums_size]; exact h
    rw [dif_neg hs, List.getElem?_eq_none (by omega)]
    rfl
end Go.Proofs.Ytoknlaknffpigaa.Tm
