/- The sum of bytes (layer 21), in plain numbers: it is the fold that the walk tells, and a byte that is another one changes it. -/
import Derived.Test.YtoknlaknffpigaaPTapeToldx5
import Derived.Test.YtoknlaknffpigaaTapeMath
import Derived.Laws.BitsAllLaws
namespace Go.Proofs.Ytoknlaknffpigaa.Ts
open Go.RowKit Go.Proofs.YtoknlaknffpigaaW.PrintWords Go.Proofs.YtoknlaknffpigaaW.PrintLast Go.Proofs.YtoknlaknffpigaaW.PrintMore Go.Proofs.Ytoknlaknffpigaa.PTapeTold Go.Proofs.Ytoknlaknffpigaa.Tm

def st (n c : Int) : Int := IntKind.u64.wrap ((Go.bits .xor .u64 n (IntKind.u64.wrap c)) * 1099511628211)
def sm (n : Int) (l : List Int) : Int := l.foldl st n

theorem sum_run (l : List Int) (hl : l.length ≤ 1000000) : ∀ (n j : Nat) (x : Int), j + n = l.length → tape_Sum.l0 (n + 1) x l (l.length : Int) (j : Int) = some (sm x (l.drop j)) := by
  intro n
  induction n with
  | zero => intro j x hj; rw [tape_Sum.l0, if_neg (by omega), List.drop_eq_nil_of_le (by omega)]; rfl
  | succ n ih =>
    intro j x hj
    have e2 : wrap64 ((j : Int) + 1) = ((j + 1 : Nat) : Int) := by rw [w64 (by omega) (by omega)]; omega
    have hd : l.drop j = rd l (j : Int) :: l.drop (j + 1) := by
      rw [List.drop_eq_getElem_cons (by omega)]
      congr 1
      unfold rd
      rw [Int.toNat_natCast, List.getD_eq_getElem?_getD, List.getElem?_eq_getElem (by omega), Option.getD_some]
    rw [tape_Sum.l0, if_pos (by omega), if_pos (by omega), if_pos (by omega), e2, ih (j + 1) _ (by omega), hd]
    rfl
theorem sum_f (l : List Int) (hl : l.length ≤ 1000000) : tape_Sum.f (l.length + 1) l = some (sm 14695981039346656037 l) := sum_run l hl l.length 0 _ (by omega)

theorem inv_mul (x : Int) (h0 : 0 ≤ x) (h1 : x < 18446744073709551616) : x * 1099511628211 % 18446744073709551616 * 14886173955864302971 % 18446744073709551616 = x := by
  rw [Int.mul_emod, Int.emod_emod_of_dvd _ (Int.dvd_refl _), ← Int.mul_emod, Int.mul_assoc]
  have e : (1099511628211 : Int) * 14886173955864302971 = 1 + 18446744073709551616 * 887285111055 := by decide +kernel
  rw [e, Int.mul_add, Int.mul_one, ← Int.mul_assoc, Int.mul_comm x 18446744073709551616, Int.mul_assoc, Int.add_mul_emod_self_left]
  omega
theorem mul_inj (x y : Int) (h0 : 0 ≤ x) (h1 : x < 18446744073709551616) (h2 : 0 ≤ y) (h3 : y < 18446744073709551616) (h : x * 1099511628211 % 18446744073709551616 = y * 1099511628211 % 18446744073709551616) : x = y := by
  rw [← inv_mul x h0 h1, h, inv_mul y h2 h3]
theorem xor_lt (a b : Nat) (ha : a < 18446744073709551616) (hb : b < 18446744073709551616) : a ^^^ b < 18446744073709551616 := Nat.xor_lt_two_pow (n := 64) ha hb
theorem st_eq (n c : Int) (h0 : 0 ≤ n) (h1 : n < 18446744073709551616) (hc0 : 0 ≤ c) (hc1 : c ≤ 255) : st n c = ((n.toNat ^^^ c.toNat : Nat) : Int) * 1099511628211 % 18446744073709551616 := by
  unfold st
  rw [IntKind.wrap_u64, IntKind.wrap_u64, show c % 18446744073709551616 = c by omega, u64_xor n c h0 h1 hc0 (by omega)]
theorem st_range (n c : Int) : 0 ≤ st n c ∧ st n c < 18446744073709551616 := by
  unfold st
  rw [IntKind.wrap_u64]
  omega
theorem xor_of (n n' c c' : Int) (hn : 0 ≤ n ∧ n < 18446744073709551616) (hn' : 0 ≤ n' ∧ n' < 18446744073709551616) (hc : 0 ≤ c ∧ c ≤ 255) (hc' : 0 ≤ c' ∧ c' ≤ 255) (h : st n c = st n' c') : n.toNat ^^^ c.toNat = n'.toNat ^^^ c'.toNat := by
  rw [st_eq n c hn.1 hn.2 hc.1 hc.2, st_eq n' c' hn'.1 hn'.2 hc'.1 hc'.2] at h
  have a := xor_lt n.toNat c.toNat (by omega) (by omega)
  have b := xor_lt n'.toNat c'.toNat (by omega) (by omega)
  exact Int.ofNat.inj (mul_inj _ _ (Int.natCast_nonneg _) (Int.ofNat_lt.2 a) (Int.natCast_nonneg _) (Int.ofNat_lt.2 b) h)
theorem st_n (n n' c : Int) (hn : 0 ≤ n ∧ n < 18446744073709551616) (hn' : 0 ≤ n' ∧ n' < 18446744073709551616) (hc : 0 ≤ c ∧ c ≤ 255) (h : st n c = st n' c) : n = n' := by
  have h := congrArg (· ^^^ c.toNat) (xor_of n n' c c hn hn' hc hc h)
  simp only [Nat.xor_assoc, Nat.xor_self, Nat.xor_zero] at h
  omega
theorem st_c (n c c' : Int) (hn : 0 ≤ n ∧ n < 18446744073709551616) (hc : 0 ≤ c ∧ c ≤ 255) (hc' : 0 ≤ c' ∧ c' ≤ 255) (h : st n c = st n c') : c = c' := by
  have h := congrArg (n.toNat ^^^ ·) (xor_of n n c c' hn hn hc hc' h)
  simp only [← Nat.xor_assoc, Nat.xor_self, Nat.zero_xor] at h
  omega
theorem sm_n (l : List Int) (hl : Bytes l) : ∀ n n' : Int, (0 ≤ n ∧ n < 18446744073709551616) → (0 ≤ n' ∧ n' < 18446744073709551616) → sm n l = sm n' l → n = n' := by
  induction l with
  | nil => intro n n' _ _ h; exact h
  | cons c t ih =>
    intro n n' hn hn' h
    have hc := hl c List.mem_cons_self
    exact st_n n n' c hn hn' hc (ih (fun x hx => hl x (List.mem_cons_of_mem _ hx)) _ _ (st_range _ _) (st_range _ _) h)
theorem sm_set (l : List Int) (hl : Bytes l) (y : Int) (hy : 0 ≤ y ∧ y ≤ 255) : ∀ (i : Nat) (n : Int), (0 ≤ n ∧ n < 18446744073709551616) → i < l.length → rd l (i : Int) ≠ y → sm n (l.set i y) ≠ sm n l := by
  induction l with
  | nil => intro i n _ h; simp at h
  | cons c t ih =>
    intro i n hn hi hne
    have hc := hl c List.mem_cons_self
    have ht : Bytes t := fun x hx => hl x (List.mem_cons_of_mem _ hx)
    cases i with
    | zero =>
      intro h
      have h2 := sm_n t ht (st n y) (st n c) (st_range _ _) (st_range _ _) h
      exact hne (st_c n y c hn hy hc h2).symm
    | succ i => exact ih ht i (st n c) (st_range _ _) (by simpa using hi) (by simpa [rd] using hne)
end Go.Proofs.Ytoknlaknffpigaa.Ts
