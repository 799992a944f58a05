/- What layer 21's functions compute, in plain numbers: reading eight bytes, ticks of bytes, both ways. -/
import Derived.Test.YtoknlaknffpigaaTapePut
import Derived.Test.YtoknlaknffpigaaTapeNumber
namespace Go.Proofs.Ytoknlaknffpigaa.Tp
open Go.RowKit Go.Proofs.YtoknlaknffpigaaW.PrintWords Go.Proofs.YtoknlaknffpigaaW.PrintLast Go.Proofs.YtoknlaknffpigaaW.PrintMore Go.Proofs.Ytoknlaknffpigaa.PTapePuts Go.Proofs.Ytoknlaknffpigaa.Tm

/-- The number of the first i bytes. -/
def part (b : List Int) : Nat → Int
  | 0 => 0
  | i + 1 => part b i + rd b (i : Int) * 2 ^ (8 * i)
theorem part_range (b : List Int) (hb : Bytes b) : ∀ i, 0 ≤ part b i ∧ part b i < 2 ^ (8 * i) := by
  intro i
  induction i with
  | zero => simp [part]
  | succ i ih =>
    have h := hb.at_ (i : Int)
    have hp : (0 : Int) < 2 ^ (8 * i) := Int.pow_pos (by decide)
    have e : (2 : Int) ^ (8 * (i + 1)) = 256 * 2 ^ (8 * i) := by rw [show 8 * (i + 1) = 8 * i + 8 by omega, Int.pow_add]; omega
    unfold part
    rw [e]
    have h1 : 0 ≤ rd b (i : Int) * 2 ^ (8 * i) := Int.mul_nonneg h.1 (by omega)
    have h2 : rd b (i : Int) * 2 ^ (8 * i) ≤ 255 * 2 ^ (8 * i) := Int.mul_le_mul_of_nonneg_right h.2 (by omega)
    omega
theorem part8 (b : List Int) : part b 8 = val8 b := by
  simp only [part, val8]
  simp
  omega

theorem tnumber_step (k : Nat) (b : List Int) (hb : Bytes b) (i : Nat) (hi : i < 8) (hl : 8 ≤ b.length) (hl2 : b.length ≤ 9000000) :
    tape_number.l0 (k + 1) b (part b i) (i : Int) = tape_number.l0 k b (part b (i + 1)) ((i + 1 : Nat) : Int) := by
  have e1 : wrap64 (8 * (i : Int)) = 8 * (i : Int) := w64 (by omega) (by omega)
  have e2 : wrap64 ((i : Int) + 1) = ((i + 1 : Nat) : Int) := by rw [w64 (by omega) (by omega)]; omega
  have hr := part_range b hb i
  have hy := hb.at_ (i : Int)
  rw [tape_number.l0, if_pos (by omega), if_pos (by omega), if_pos (by omega), e1, if_pos (by omega), e2, or_step _ _ i hi hr.1 hr.2 hy.1 hy.2]
  rfl

theorem tnumber_f (k : Nat) (b : List Int) (hb : Bytes b) (hl : 8 ≤ b.length) (hl2 : b.length ≤ 9000000) : tape_number.f (k + 9) b = some (num8 b) := by
  have s := fun (k i : Nat) (hi : i < 8) => tnumber_step k b hb i hi hl hl2
  show tape_number.l0 (k + 8 + 1) b (part b 0) ((0 : Nat) : Int) = _
  rw [s (k + 8) 0 (by omega), s (k + 7) 1 (by omega), s (k + 6) 2 (by omega), s (k + 5) 3 (by omega), s (k + 4) 4 (by omega), s (k + 3) 5 (by omega), s (k + 2) 6 (by omega), s (k + 1) 7 (by omega), tape_number.l0, if_neg (by omega), part8]
  rfl

/-- Ticks of bytes, behind those that are there. -/
def get : Nat → List Int → List S33 → List S33 × Int
  | 0, _, _ => ([], 0)
  | n + 1, b, acc =>
    if b.length = 0 then (acc, 0)
    else if rd b 0 > 3 then ([], 6)
    else if (b.length : Int) < 9 + 8 * (rd b 0 % 2) then ([], 5)
    else if rd b 0 % 2 = 1 then get n (b.drop 17) (acc ++ [⟨num8 (b.drop 1), true, num8 (b.drop 9), rd b 0 / 2 == 1⟩])
    else get n (b.drop 9) (acc ++ [⟨num8 (b.drop 1), false, 0, rd b 0 / 2 == 1⟩])

theorem and1 : ∀ f : Fin 4, Go.bits .and .u8 ((f : Nat) : Int) 1 = ((f : Nat) : Int) % 2 := by decide +kernel
theorem and2 : ∀ f : Fin 4, (Go.bits .and .u8 ((f : Nat) : Int) 2 == 2) = (((f : Nat) : Int) / 2 == 1) := by decide +kernel
theorem small {f : Int} (h0 : 0 ≤ f) (h1 : f ≤ 3) : ∃ g : Fin 4, f = ((g : Nat) : Int) := ⟨⟨f.toNat, by omega⟩, by simp; omega⟩

/-- A tick that can be read: its numbers are 64 bits wide. -/
def OkT (t : S33) : Prop := (-9223372036854775808 ≤ t.f0 ∧ t.f0 ≤ 9223372036854775807) ∧ -9223372036854775808 ≤ t.f2 ∧ t.f2 ≤ 9223372036854775807

theorem get_put : ∀ (n : Nat) (l acc : List S33), l.length < n → l.any bad = false → (∀ t ∈ l, OkT t) → get n (l.flatMap tb) acc = (acc ++ l, 0) := by
  intro n
  induction n with
  | zero => intro l acc h; omega
  | succ n ih =>
    intro l acc hn hb ho
    cases l with
    | nil => simp [get]
    | cons t r =>
      obtain ⟨t0, t1, t2, t3⟩ := t
      have hb2 : bad ⟨t0, t1, t2, t3⟩ = false ∧ r.any bad = false := by simpa using hb
      obtain ⟨o1, o2⟩ := ho _ List.mem_cons_self
      have ih' := ih r (acc ++ [⟨t0, t1, t2, t3⟩]) (by simp at hn; omega) hb2.2 (fun t ht => ho t (List.mem_cons_of_mem _ ht))
      rw [List.append_assoc] at ih'
      rw [List.flatMap_cons]
      cases t1 with
      | true =>
        have e : tb ⟨t0, true, t2, t3⟩ = (1 + 2 * b1 t3) :: (le8 t0 ++ le8 t2) := by simp [tb, b1]
        have hr0 : rd ((1 + 2 * b1 t3) :: (le8 t0 ++ le8 t2) ++ r.flatMap tb) 0 = 1 + 2 * b1 t3 := rfl
        have d1 : ((1 + 2 * b1 t3) :: (le8 t0 ++ le8 t2) ++ r.flatMap tb).drop 1 = le8 t0 ++ (le8 t2 ++ r.flatMap tb) := by simp
        have d9 : ((1 + 2 * b1 t3) :: (le8 t0 ++ le8 t2) ++ r.flatMap tb).drop 9 = le8 t2 ++ r.flatMap tb := by simp [le8]
        have d17 : ((1 + 2 * b1 t3) :: (le8 t0 ++ le8 t2) ++ r.flatMap tb).drop 17 = r.flatMap tb := by simp [le8]
        have hlen : ((1 + 2 * b1 t3) :: (le8 t0 ++ le8 t2) ++ r.flatMap tb).length = 17 + (r.flatMap tb).length := by simp [le8_length]; omega
        have hf : b1 t3 = 0 ∨ b1 t3 = 1 := by cases t3 <;> simp [b1]
        have hf2 : ((1 + 2 * b1 t3) / 2 == 1) = t3 := by cases t3 <;> rfl
        rw [e, get, hr0, d1, d9, d17, hlen, num8_le8 _ _ o1.1 o1.2, num8_le8 _ _ o2.1 o2.2, hf2, if_neg (by omega), if_neg (by omega), if_neg (by omega), if_pos (by omega)]
        exact ih'
      | false =>
        have h2 : t2 = 0 := by simpa [bad] using hb2.1
        subst h2
        have e : tb ⟨t0, false, 0, t3⟩ = (0 + 2 * b1 t3) :: le8 t0 := by simp [tb, b1]
        have hr0 : rd ((0 + 2 * b1 t3) :: le8 t0 ++ r.flatMap tb) 0 = 0 + 2 * b1 t3 := rfl
        have d1 : ((0 + 2 * b1 t3) :: le8 t0 ++ r.flatMap tb).drop 1 = le8 t0 ++ r.flatMap tb := by simp
        have d9 : ((0 + 2 * b1 t3) :: le8 t0 ++ r.flatMap tb).drop 9 = r.flatMap tb := by simp [le8]
        have hlen : ((0 + 2 * b1 t3) :: le8 t0 ++ r.flatMap tb).length = 9 + (r.flatMap tb).length := by simp [le8_length]; omega
        have hf : b1 t3 = 0 ∨ b1 t3 = 1 := by cases t3 <;> simp [b1]
        have hf2 : ((0 + 2 * b1 t3) / 2 == 1) = t3 := by cases t3 <;> rfl
        rw [e, get, hr0, d1, d9, hlen, num8_le8 _ _ o1.1 o1.2, hf2, if_neg (by omega), if_neg (by omega), if_neg (by omega), if_neg (by omega)]
        exact ih'
end Go.Proofs.Ytoknlaknffpigaa.Tp
