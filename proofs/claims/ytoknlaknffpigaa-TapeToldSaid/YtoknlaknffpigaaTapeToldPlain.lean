/- What both Told of layer 21 compute, and that the document's sum is the program's, in plain numbers. -/
import Derived.Test.YtoknlaknffpigaaTapeToldA
import Derived.Test.YtoknlaknffpigaaTapeToldB
import Derived.Test.YtoknlaknffpigaaTapeNums
import Derived.Test.YtoknlaknffpigaaTapeSumPlain
namespace Go.Proofs.Ytoknlaknffpigaa.Tn
open Go.RowKit Go.Proofs.YtoknlaknffpigaaW.PrintWords Go.Proofs.YtoknlaknffpigaaW.PrintLast Go.Proofs.YtoknlaknffpigaaW.PrintMore Go.Proofs.Ytoknlaknffpigaa.PTapeTold Go.Proofs.Ytoknlaknffpigaa.Tm

theorem numbers_step (k : Nat) (x0 : List Int) (x6 : Int) (x8 : List Int) (x9 x10 : Int) (i : Nat) (hi : i < 8) (hx : x0.length < 140737488355328) :
    tape_numbers.l1 (k + 1) x0 x6 x8 x9 x10 (i : Int) = tape_numbers.l1 k (x0 ++ [Tm.byteOf x6 i]) x6 x8 x9 x10 ((i + 1 : Nat) : Int) := by
  have e1 : wrap64 (8 * (i : Int)) = 8 * (i : Int) := w64 (by omega) (by omega)
  have e2 : wrap64 ((i : Int) + 1) = ((i + 1 : Nat) : Int) := by rw [w64 (by omega) (by omega)]; omega
  rw [tape_numbers.l1, if_pos (by omega), e1, if_pos (by omega), if_pos hx, e2, IntKind.wrap_u64, shr_u64 _ _ hi]
  rfl

theorem numbers_one (k : Nat) (x0 : List Int) (x6 : Int) (x8 : List Int) (x9 x10 : Int) (hx : x0.length + 8 < 140737488355328) :
    tape_numbers.l1 (k + 9) x0 x6 x8 x9 x10 0 = tape_numbers.l0 k (x0 ++ le8 x6) x8 x9 (wrap64 (x10 + 1)) := by
  have s := fun (k : Nat) (y : List Int) (i : Nat) (hi : i < 8) (hy : y.length < 140737488355328) => numbers_step k y x6 x8 x9 x10 i hi hy
  rw [show (0 : Int) = ((0 : Nat) : Int) from rfl, s (k + 8) _ 0 (by omega) (by omega), s (k + 7) _ 1 (by omega) (by simp; omega), s (k + 6) _ 2 (by omega) (by simp; omega), s (k + 5) _ 3 (by omega) (by simp; omega),
    s (k + 4) _ 4 (by omega) (by simp; omega), s (k + 3) _ 5 (by omega) (by simp; omega), s (k + 2) _ 6 (by omega) (by simp; omega), s (k + 1) _ 7 (by omega) (by simp; omega), tape_numbers.l1, if_neg (by omega), le8_eq]
  simp only [List.append_assoc, List.cons_append, List.nil_append]

theorem numbers_all (k : Nat) (l1 : List Int) : ∀ (n : Nat) (x0 : List Int) (j : Nat), j + n = l1.length → l1.length ≤ 1000 → x0.length + 8 * n < 140737488355328 →
    tape_numbers.l0 (k + 10 * n + 1) x0 l1 (l1.length : Int) (j : Int) = some (x0 ++ (l1.drop j).flatMap le8) := by
  intro n
  induction n with
  | zero =>
    intro x0 j hj _ _
    rw [tape_numbers.l0, if_neg (by omega), List.drop_eq_nil_of_le (by omega)]
    simp
  | succ n ih =>
    intro x0 j hj hl hx
    have e : k + 10 * (n + 1) + 1 = ((k + 10 * n + 1) + 9) + 1 := by omega
    have e2 : wrap64 ((j : Int) + 1) = ((j + 1 : Nat) : Int) := by rw [w64 (by omega) (by omega)]; omega
    rw [e, tape_numbers.l0, if_pos (by omega), if_pos (by omega), if_pos (by omega), numbers_one _ _ _ _ _ _ (by omega), e2, ih _ (j + 1) (by omega) hl (by rw [List.length_append, le8_length]; omega)]
    have hd : l1.drop j = rd l1 (j : Int) :: l1.drop (j + 1) := by
      rw [List.drop_eq_getElem_cons (by omega)]
      congr 1
      unfold rd
      rw [Int.toNat_natCast, List.getD_eq_getElem?_getD, List.getElem?_eq_getElem (by omega), Option.getD_some]
    rw [hd, List.flatMap_cons, List.append_assoc]

theorem numbers_f (l0 l1 : List Int) (h0 : l0.length + 8 * l1.length < 140737488355328) (h1 : l1.length ≤ 1000) : tape_numbers.f (10 * l1.length + 1) l0 l1 = some (l0 ++ l1.flatMap le8) := by
  have h := numbers_all 0 l1 l1.length l0 0 (by omega) h1 h0
  rw [List.drop_zero, Nat.zero_add] at h
  exact h

theorem numbers_three (k : Nat) (l0 : List Int) (a b c : Int) (h0 : l0.length + 24 < 140737488355328) : tape_numbers.f (k + 31) l0 [a, b, c] = some (l0 ++ (le8 a ++ (le8 b ++ le8 c))) := by
  have h := numbers_all k [a, b, c] 3 l0 0 (by simp) (by simp) h0
  rw [List.drop_zero] at h
  show tape_numbers.l0 (k + 31) l0 [a, b, c] 3 0 = _
  simpa using h

theorem rnumber_step (k : Nat) (x : Int) (bs : List Int) (i : Nat) (hi : i < 8) (h0 : 0 ≤ x) (h1 : x < 18446744073709551616) (hl : bs.length ≤ 100000) :
    aneroidref21_number.l0 (k + 1) x (strOfNums bs) (i : Int) = aneroidref21_number.l0 k (x / 256) (strOfNums (bs ++ [x % 256])) ((i + 1 : Nat) : Int) := by
  have e2 : wrap64 ((i : Int) + 1) = ((i + 1 : Nat) : Int) := by rw [w64 (by omega) (by omega)]; omega
  have e3 : Int.tmod x 256 % 256 = x % 256 := by rw [Int.tmod_eq_emod_of_nonneg h0]; omega
  have e4 : IntKind.u64.wrap (Int.tdiv x 256) = x / 256 := by rw [IntKind.wrap_u64, Int.tdiv_eq_ediv_of_nonneg h0]; omega
  rw [aneroidref21_number.l0, if_pos (by omega), Option.bind_some, strOfNums_size, strOfNums_size, if_pos (by simp; omega), e2, e3, e4, str_app]

theorem rnumber_f (k : Nat) (x : Int) : aneroidref21_number.f (k + 9) x = some (strOfNums (le8 x)) := by
  have s := fun (k i : Nat) (x : Int) (bs : List Int) (hi : i < 8) (h0 : 0 ≤ x) (h1 : x < 18446744073709551616) (hl : bs.length ≤ 100000) => rnumber_step k x bs i hi h0 h1 hl
  unfold aneroidref21_number.f
  rw [IntKind.wrap_u64, str_nil, show (0 : Int) = ((0 : Nat) : Int) from rfl]
  generalize hy : x % 18446744073709551616 = y
  have hy0 : 0 ≤ y ∧ y < 18446744073709551616 := by omega
  rw [show k + 9 = k + 8 + 1 by omega, s (k + 8) 0 _ _ (by omega) (by omega) (by omega) (by simp), s (k + 7) 1 _ _ (by omega) (by omega) (by omega) (by simp), s (k + 6) 2 _ _ (by omega) (by omega) (by omega) (by simp),
    s (k + 5) 3 _ _ (by omega) (by omega) (by omega) (by simp), s (k + 4) 4 _ _ (by omega) (by omega) (by omega) (by simp), s (k + 3) 5 _ _ (by omega) (by omega) (by omega) (by simp),
    s (k + 2) 6 _ _ (by omega) (by omega) (by omega) (by simp), s (k + 1) 7 _ _ (by omega) (by omega) (by omega) (by simp), aneroidref21_number.l0, if_neg (by omega)]
  congr 2
  unfold le8
  rw [hy]
  simp only [List.nil_append, List.cons_append, List.cons.injEq, and_true]
  refine ⟨trivial, trivial, by omega, by omega, by omega, by omega, by omega, by omega⟩


def fl (a b c d e : Bool) : Int := b1 a + 2 * b1 b + 4 * b1 c + 8 * b1 d + 16 * b1 e
theorem fl_range (a b c d e : Bool) : 0 ≤ fl a b c d e ∧ fl a b c d e ≤ 31 := by revert a b c d e; decide +kernel
theorem flags_five0 : ∀ a b c d e : Bool, tape_flags.f 7 [a, b, c, d, e] = some (fl a b c d e) := by decide +kernel
theorem flags_five (k : Nat) (a b c d e : Bool) : tape_flags.f (k + 7) [a, b, c, d, e] = some (fl a b c d e) := by
  induction k with
  | zero => exact flags_five0 a b c d e
  | succ k ih => rw [show k + 1 + 7 = (k + 7) + 1 by omega]; exact tape_flags.mono _ _ _ ih
theorem bits_five : ∀ a b c d e : Bool, aneroidref21_bit.f 1 a = some (b1 a) ∧ aneroidref21_bit.f 2 b = some (2 * b1 b) ∧ aneroidref21_bit.f 4 c = some (4 * b1 c) ∧ aneroidref21_bit.f 8 d = some (8 * b1 d) ∧ aneroidref21_bit.f 16 e = some (16 * b1 e) ∧
    (((((((b1 a + 2 * b1 b) % 256) + 4 * b1 c) % 256) + 8 * b1 d) % 256) + 16 * b1 e) % 256 = fl a b c d e := by decide +kernel

def head (t : S98) : List Int := [t.f0 % 256, fl t.f1 t.f2 t.f3 t.f4 t.f5, 0, 0]
def told (t : S98) : List Int := head t ++ (le8 t.f6 ++ (le8 t.f7 ++ le8 t.f8))
theorem told_length (t : S98) : (told t).length = 28 := rfl
theorem rd_drop (l : List S98) (j : Nat) (h : j < l.length) : l.drop j = rd_T98 l (j : Int) :: l.drop (j + 1) := by
  rw [List.drop_eq_getElem_cons h]
  congr 1
  unfold rd_T98
  rw [Int.toNat_natCast, List.getD_eq_getElem?_getD, List.getElem?_eq_getElem h, Option.getD_some]

theorem ptold_run (l : List S98) (hl : l.length ≤ 1000) : ∀ (n j : Nat) (x : List Int), j + n = l.length → x.length + 28 * n < 140737488355328 →
    tape_Told.l0 (n + 41) x l (l.length : Int) (j : Int) = some (x ++ (l.drop j).flatMap told) := by
  intro n
  induction n with
  | zero => intro j x hj _; rw [show 0 + 41 = 40 + 1 by omega, tape_Told.l0, if_neg (by omega), List.drop_eq_nil_of_le (by omega)]; simp
  | succ n ih =>
    intro j x hj hx
    have e2 : wrap64 ((j : Int) + 1) = ((j + 1 : Nat) : Int) := by rw [w64 (by omega) (by omega)]; omega
    have f7 := fun a b c d e => flags_five (n + 34) a b c d e
    have f31 := fun (y : List Int) (a b c : Int) h => numbers_three (n + 10) y a b c h
    rw [show n + 34 + 7 = n + 41 by omega] at f7
    rw [show n + 10 + 31 = n + 41 by omega] at f31
    rw [show n + 1 + 41 = (n + 41) + 1 by omega, tape_Told.l0, if_pos (by omega), if_pos (by omega), if_pos (by omega), f7, Option.bind_some, Option.bind_some, if_pos (by simp; omega), f31 _ _ _ _ (by simp; omega), Option.bind_some, e2, ih _ _ (by omega) (by simp [le8_length]; omega), rd_drop l j (by omega)]
    simp only [List.flatMap_cons, told, head, List.append_assoc]
theorem ptold_f (l : List S98) (hl : l.length ≤ 1000) : tape_Told.f (l.length + 41) l = some (l.flatMap told) := ptold_run l hl l.length 0 [] (by omega) (by simp; omega)

theorem rtold_run (l : List S98) (hl : l.length ≤ 1000) : ∀ (n j : Nat) (x : List Int), j + n = l.length → x.length + 28 * n < 1000000 →
    aneroidref21_Told.l0 (n + 11) l (strOfNums x) (j : Int) = some (strOfNums (x ++ (l.drop j).flatMap told)) := by
  intro n
  induction n with
  | zero => intro j x hj _; rw [show 0 + 11 = 10 + 1 by omega, aneroidref21_Told.l0, if_neg (by omega), List.drop_eq_nil_of_le (by omega)]; simp
  | succ n ih =>
    intro j x hj hx
    have e2 : wrap64 ((j : Int) + 1) = ((j + 1 : Nat) : Int) := by rw [w64 (by omega) (by omega)]; omega
    have f9 := fun a => rnumber_f (n + 2) a
    rw [show n + 2 + 9 = n + 11 by omega] at f9
    rw [show n + 1 + 11 = (n + 11) + 1 by omega, aneroidref21_Told.l0, if_pos (by omega), if_pos (by omega), rd_drop l j (by omega)]
    generalize rd_T98 l (j : Int) = t
    obtain ⟨h1, h2, h3, h4, h5, h6⟩ := bits_five t.f1 t.f2 t.f3 t.f4 t.f5
    have hm : Int.tmod (IntKind.u64.wrap t.f0) 256 % 256 = t.f0 % 256 := by
      rw [IntKind.wrap_u64, Int.tmod_eq_emod_of_nonneg (by omega)]
      omega
    rw [h1, Option.bind_some, h2, Option.bind_some, h3, Option.bind_some, h4, Option.bind_some, h5, Option.bind_some, Option.bind_some, hm, h6, f9, f9, f9]
    simp only [Option.bind_some, str_app, strOfNums_size]
    rw [if_pos (by simp; omega), if_pos (by simp [le8_length]; omega), if_pos (by simp [le8_length]; omega), if_pos (by simp [le8_length]; omega), e2, ih _ _ (by omega) (by simp [le8_length]; omega)]
    simp only [List.flatMap_cons, told, head, List.append_assoc]
theorem rtold_f (l : List S98) (hl : l.length ≤ 1000) : aneroidref21_Told.f (l.length + 11) l = some (strOfNums (l.flatMap told)) := by
  unfold aneroidref21_Told.f
  rw [str_nil]
  exact rtold_run l hl l.length 0 [] (by omega) (by simp; omega)

theorem bit_ne (a b i : Nat) : (a ^^^ b) / 2 ^ i % 2 = if a / 2 ^ i % 2 = b / 2 ^ i % 2 then 0 else 1 := by
  have h := Nat.testBit_xor (x := a) (y := b) (i := i)
  simp only [Nat.testBit_eq_decide_div_mod_eq] at h
  have ha : a / 2 ^ i % 2 < 2 := Nat.mod_lt _ (by omega)
  have hb : b / 2 ^ i % 2 < 2 := Nat.mod_lt _ (by omega)
  have hc : (a ^^^ b) / 2 ^ i % 2 < 2 := Nat.mod_lt _ (by omega)
  generalize (a ^^^ b) / 2 ^ i % 2 = z at *
  generalize a / 2 ^ i % 2 = x at *
  generalize b / 2 ^ i % 2 = y at *
  have hx : x = 0 ∨ x = 1 := by omega
  have hy : y = 0 ∨ y = 1 := by omega
  have hz : z = 0 ∨ z = 1 := by omega
  rcases hx with rfl | rfl <;> rcases hy with rfl | rfl <;> rcases hz with rfl | rfl <;> simp at h ⊢

theorem half (q : Nat) : Int.tmod (IntKind.u64.wrap (q : Int)) 2 = ((q % 2 : Nat) : Int) := by
  rw [IntKind.wrap_u64, Int.tmod_eq_emod_of_nonneg (by omega)]
  omega
theorem low_step (k : Nat) (s : ByteArray) (x3 x4 : Int) (a b : Nat) (ha : a < 256) (hb : b < 256) (i : Nat) (hi : i < 8) :
    aneroidref21_Sum.l1 (k + 1) s x3 x4 (a : Int) (b : Int) (((a ^^^ b) % 2 ^ i : Nat) : Int) ((2 ^ i : Nat) : Int) (i : Int) =
    aneroidref21_Sum.l1 k s x3 x4 (a : Int) (b : Int) (((a ^^^ b) % 2 ^ (i + 1) : Nat) : Int) ((2 ^ (i + 1) : Nat) : Int) ((i + 1 : Nat) : Int) := by
  have hbit := bit_ne a b i
  have hm := Nat.mod_pow_succ (x := a ^^^ b) (b := 2) (k := i)
  generalize a ^^^ b = m at hbit hm ⊢
  have h7 : 2 ^ i ≤ 2 ^ 7 := Nat.pow_le_pow_right (by decide) (by omega)
  have h8 : (2 : Nat) ^ 7 = 128 := by decide
  rw [h8] at h7
  have hp : 1 ≤ 2 ^ i ∧ 2 ^ i ≤ 128 := ⟨Nat.one_le_two_pow, h7⟩
  have hp2 : 2 ^ (i + 1) = 2 * 2 ^ i := by rw [Nat.pow_succ]; omega
  have hr : m % 2 ^ i < 2 ^ i := Nat.mod_lt _ (by omega)
  rw [hp2] at hm ⊢
  generalize 2 ^ i = p at hbit hm hp hr ⊢
  have e2 : wrap64 ((i : Int) + 1) = ((i + 1 : Nat) : Int) := by rw [w64 (by omega) (by omega)]; omega
  have e3 : IntKind.u64.wrap (2 * (p : Int)) = ((2 * p : Nat) : Int) := by rw [IntKind.wrap_u64]; omega
  have da : a / p ≤ a := Nat.div_le_self _ _
  have db : b / p ≤ b := Nat.div_le_self _ _
  have e4 : Int.tmod (IntKind.u64.wrap (Int.tdiv (a : Int) (p : Int))) 2 = ((a / p % 2 : Nat) : Int) := by
    rw [Int.tdiv_eq_ediv_of_nonneg (by omega), ← Int.natCast_ediv]
    exact half _
  have e5 : Int.tmod (IntKind.u64.wrap (Int.tdiv (b : Int) (p : Int))) 2 = ((b / p % 2 : Nat) : Int) := by
    rw [Int.tdiv_eq_ediv_of_nonneg (by omega), ← Int.natCast_ediv]
    exact half _
  clear da db
  rw [hm, hbit]
  clear hm hbit h7
  generalize m % p = r at hr ⊢
  generalize a / p % 2 = qa at e4 ⊢
  generalize b / p % 2 = qb at e5 ⊢
  have i8 : (i : Int) < 8 := by omega
  have p0 : ¬ (p : Int) = 0 := by omega
  rw [aneroidref21_Sum.l1, if_pos i8, if_neg p0, e4, e5, e2, e3]
  by_cases h : qa = qb
  · have h' : ((qa : Nat) : Int) = ((qb : Nat) : Int) := by rw [h]
    rw [if_pos h, if_pos h', Nat.mul_zero]
    simp only [Nat.add_zero]
  · have h' : ¬ ((qa : Nat) : Int) = ((qb : Nat) : Int) := by omega
    have e9 : IntKind.u64.wrap ((r : Int) + (p : Int)) = ((r + p * 1 : Nat) : Int) := by rw [IntKind.wrap_u64]; omega
    rw [if_neg h, if_neg h', e9]

theorem low_all (k : Nat) (s : ByteArray) (x3 x4 : Int) (a b : Nat) (ha : a < 256) (hb : b < 256) :
    aneroidref21_Sum.l1 (k + 9) s x3 x4 (a : Int) (b : Int) 0 1 0 = aneroidref21_Sum.l0 k s (IntKind.u64.wrap ((IntKind.u64.wrap ((IntKind.u64.wrap (x3 - (a : Int))) + ((a ^^^ b : Nat) : Int))) * 1099511628211)) (wrap64 (x4 + 1)) := by
  have st := fun (k i : Nat) (hi : i < 8) => low_step k s x3 x4 a b ha hb i hi
  have h0 := st (k + 8) 0 (by omega)
  simp only [Nat.pow_zero, Nat.mod_one] at h0
  have h0' : aneroidref21_Sum.l1 (k + 9) s x3 x4 (a : Int) (b : Int) 0 1 0 = _ := h0
  have hx : (a ^^^ b) % 2 ^ 8 = a ^^^ b := Nat.mod_eq_of_lt (Nat.xor_lt_two_pow (n := 8) ha hb)
  rw [h0', st (k + 7) 1 (by omega), st (k + 6) 2 (by omega), st (k + 5) 3 (by omega), st (k + 4) 4 (by omega), st (k + 3) 5 (by omega), st (k + 2) 6 (by omega), st (k + 1) 7 (by omega)]
  show aneroidref21_Sum.l1 (k + 1) s x3 x4 (a : Int) (b : Int) (((a ^^^ b) % 2 ^ 8 : Nat) : Int) _ _ = _
  rw [hx, aneroidref21_Sum.l1, if_neg (by decide)]

theorem xor_low (n c : Nat) (hc : c < 256) : n - n % 256 + (n % 256 ^^^ c) = n ^^^ c := by
  have h1 := Nat.xor_div_two_pow (a := n) (b := c) (n := 8)
  have h2 := Nat.xor_mod_two_pow (a := n) (b := c) (n := 8)
  have h3 : c / 2 ^ 8 = 0 := Nat.div_eq_of_lt hc
  have h4 : c % 2 ^ 8 = c := Nat.mod_eq_of_lt hc
  rw [h3, Nat.xor_zero] at h1
  rw [h4] at h2
  have h5 : (2 : Nat) ^ 8 = 256 := by decide
  rw [h5] at h1 h2
  rw [← h2]
  omega

theorem rsum_run (l : List Int) (hb : Bytes l) (hl : l.length ≤ 100000) : ∀ (n j : Nat) (x : Int), j + n = l.length → (0 ≤ x ∧ x < 18446744073709551616) →
    aneroidref21_Sum.l0 (10 * n + 1) (strOfNums l) x (j : Int) = some (Ts.sm x (l.drop j)) := by
  intro n
  induction n with
  | zero => intro j x hj _; rw [show 10 * 0 + 1 = 0 + 1 by omega, aneroidref21_Sum.l0, strOfNums_size, if_neg (by omega), List.drop_eq_nil_of_le (by omega)]; rfl
  | succ n ih =>
    intro j x hj hx
    have e2 : wrap64 ((j : Int) + 1) = ((j + 1 : Nat) : Int) := by rw [w64 (by omega) (by omega)]; omega
    have hc := hb.at_ (j : Int)
    have hd : l.drop j = rd l (j : Int) :: l.drop (j + 1) := by
      rw [List.drop_eq_getElem_cons (by omega)]
      congr 1
      unfold rd
      rw [Int.toNat_natCast, List.getD_eq_getElem?_getD, List.getElem?_eq_getElem (by omega), Option.getD_some]
    rw [hd]
    show _ = some (Ts.sm (Ts.st x (rd l (j : Int))) (l.drop (j + 1)))
    rw [Ts.st_eq x _ hx.1 hx.2 hc.1 hc.2]
    rw [show 10 * (n + 1) + 1 = (10 * n + 1 + 9) + 1 by omega, aneroidref21_Sum.l0, strOfNums_size, if_pos (by omega), if_pos (by omega), bt_str l hb]
    generalize rd l (j : Int) = c at hc ⊢
    have ex : Int.tmod x 256 = ((x.toNat % 256 : Nat) : Int) := by rw [Int.tmod_eq_emod_of_nonneg hx.1]; omega
    have ec : IntKind.u64.wrap c = ((c.toNat : Nat) : Int) := by rw [IntKind.wrap_u64]; omega
    have hq := xor_low x.toNat c.toNat (by omega)
    have hlt := Ts.xor_lt x.toNat c.toNat (by omega) (by omega)
    rw [ex, ec, low_all _ _ _ _ _ _ (by omega) (by omega), e2]
    have e6 : IntKind.u64.wrap ((IntKind.u64.wrap ((IntKind.u64.wrap (x - ((x.toNat % 256 : Nat) : Int))) + ((x.toNat % 256 ^^^ c.toNat : Nat) : Int))) * 1099511628211) = ((x.toNat ^^^ c.toNat : Nat) : Int) * 1099511628211 % 18446744073709551616 := by
      rw [IntKind.wrap_u64, IntKind.wrap_u64, IntKind.wrap_u64]
      generalize x.toNat % 256 ^^^ c.toNat = u at hq ⊢
      generalize x.toNat ^^^ c.toNat = v at hq hlt ⊢
      have e7 : ((x - ((x.toNat % 256 : Nat) : Int)) % 18446744073709551616 + (u : Int)) % 18446744073709551616 = (v : Int) := by omega
      rw [e7]
    rw [e6, ih (j + 1) _ (by omega) (by omega)]
theorem rsum_f (l : List Int) (hb : Bytes l) (hl : l.length ≤ 100000) : aneroidref21_Sum.f (10 * l.length + 1) (strOfNums l) = some (Ts.sm 14695981039346656037 l) := rsum_run l hb hl l.length 0 _ (by omega) (by omega)
end Go.Proofs.Ytoknlaknffpigaa.Tn
