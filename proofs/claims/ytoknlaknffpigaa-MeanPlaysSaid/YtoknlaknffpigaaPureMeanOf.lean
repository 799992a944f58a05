/- The mean of any counts, or why there is none, is the document's, and what was handed in stays: the law MeanOf of layer 17 returns true for every list of numbers, with no further condition. -/
import Derived.Test.YtoknlaknffpigaaPMeanOfx1
namespace Go.Proofs.Ytoknlaknffpigaa.Pure
open Go.RowKit Go.Proofs.Ytoknlaknffpigaa.PMeanOf Go.Proofs.YtoknlaknffpigaaW.PrintWords Go.Proofs.YtoknlaknffpigaaW.PrintLast
namespace Mo

def ok (x : Int) : Bool := decide (90528 ≤ x ∧ x ≤ 430515)
def allG (l : List Int) : Bool := l.all ok

theorem w64 {x : Int} (h0 : -9223372036854775808 ≤ x) (h1 : x ≤ 9223372036854775807) : wrap64 x = x := by
  unfold wrap64
  omega

theorem rd_mid (pre t : List Int) (x : Int) : rd (pre ++ x :: t) (pre.length : Int) = x := by
  unfold rd
  simp

theorem good_ok {x : Int} (h : ok x = true) : 90528 ≤ x ∧ x ≤ 430515 := by
  simpa [ok] using h

theorem atmos_good (x : Int) : atmos_Good.f x = some (ok x) := by
  unfold atmos_Good.f ok
  by_cases h : 90528 ≤ x
  · rw [if_pos h]
    by_cases h2 : x ≤ 430515 <;> simp [h, h2]
  · rw [if_neg h]
    simp [h]

theorem ref_good (x : Int) : aneroidref06_Good.f x = some (ok x) := by
  unfold aneroidref06_Good.f ok
  by_cases h : 90528 ≤ x
  · rw [if_pos (by omega)]
    by_cases h2 : x ≤ 430515
    · simp [h, h2, show x < 430516 by omega]
    · simp [h2, show ¬ x < 430516 by omega]
  · rw [if_neg (by omega)]
    simp [h]

theorem sum_bounds (l : List Int) (h : allG l = true) : 90528 * (l.length : Int) ≤ l.sum ∧ l.sum ≤ 430515 * (l.length : Int) := by
  induction l with
  | nil => simp
  | cons x t ih =>
    simp only [allG, List.all_cons, Bool.and_eq_true] at h
    have hx := good_ok h.1
    have ht := ih h.2
    simp only [List.sum_cons, List.length_cons]
    omega

/-- The program's loop. -/
theorem of_loop (x0 : List Int) (hx0 : (x0.length : Int) ≠ 0) (hl : x0.length ≤ 1000000) : ∀ (rest pre : List Int) (acc : Int) (k : Nat), x0 = pre ++ rest → rest.length < k → 0 ≤ acc → acc ≤ 430515 * (pre.length : Int) →
    mean_Of.l0 k x0 acc x0 (x0.length : Int) (pre.length : Int) = some (if allG rest then (Int.tdiv (acc + rest.sum) (x0.length : Int), 0) else (0, 2)) := by
  intro rest
  induction rest with
  | nil =>
    intro pre acc k hx hk h0 h1
    obtain ⟨k, rfl⟩ : ∃ m, k = m + 1 := ⟨k - 1, by omega⟩
    have hlen : x0.length = pre.length := by rw [hx]; simp
    simp only [mean_Of.l0]
    rw [if_neg (by omega), if_neg hx0]
    have hq : wrap64 (Int.tdiv acc (x0.length : Int)) = Int.tdiv acc (x0.length : Int) := by
      have hd : 0 ≤ Int.tdiv acc (x0.length : Int) := Int.tdiv_nonneg h0 (by omega)
      have hd2 : Int.tdiv acc (x0.length : Int) ≤ acc := by
        rw [Int.tdiv_eq_ediv_of_nonneg h0]
        exact Int.ediv_le_self _ h0
      exact w64 (by omega) (by omega)
    rw [hq]
    simp [allG]
  | cons x t ih =>
    intro pre acc k hx hk h0 h1
    obtain ⟨k, rfl⟩ : ∃ m, k = m + 1 := ⟨k - 1, by omega⟩
    have hlen : x0.length = pre.length + (t.length + 1) := by rw [hx]; simp
    have hrd : rd x0 (pre.length : Int) = x := by rw [hx]; exact rd_mid _ _ _
    simp only [mean_Of.l0]
    rw [if_pos (by omega), if_pos (by omega), if_pos (by omega), hrd, atmos_good]
    simp only [Option.bind_some]
    by_cases hg : ok x = true
    · have hb := good_ok hg
      rw [if_pos hg, w64 (by omega) (by omega), w64 (by omega) (by omega)]
      have hi := ih (pre ++ [x]) (acc + x) k (by rw [hx]; simp) (by simp only [List.length_cons] at hk; omega) (by omega) (by simp only [List.length_append, List.length_cons, List.length_nil]; omega)
      simp only [List.length_append, List.length_cons, List.length_nil, Nat.zero_add, Int.natCast_add, Int.cast_ofNat_Int] at hi
      rw [hi]
      simp only [allG, List.all_cons, hg, Bool.true_and, List.sum_cons, Int.add_assoc]
    · rw [if_neg hg]
      simp [allG, hg]

theorem of_tells (l : List Int) (hl : l.length ≤ 1000000) (k : Nat) (hk : l.length < k) :
    mean_Of.f k l = some (if l = [] then (0, 4) else if allG l then (l.sum / (l.length : Int), 0) else (0, 2)) := by
  unfold mean_Of.f
  cases l with
  | nil => simp
  | cons x t =>
    rw [if_neg (by simp only [List.length_cons]; omega), if_neg (by simp)]
    have h := of_loop (x :: t) (by simp only [List.length_cons]; omega) hl (x :: t) [] 0 k rfl hk (by omega) (by simp)
    simp only [List.length_nil, Int.cast_ofNat_Int, Int.zero_add] at h
    refine h.trans ?_
    by_cases hg : allG (x :: t) = true
    · rw [if_pos hg, if_pos hg, Int.tdiv_eq_ediv_of_nonneg]
      have := sum_bounds _ hg
      omega
    · rw [if_neg hg, if_neg hg]

/-- The reference's third loop. -/
theorem ref_l2 (x0 : List Int) (n : Int) (hn : (x0.length : Int) = n) (hp : 0 < n) (d : Nat) : ∀ (k : Nat) (over c : Int), 0 ≤ over → over / n = (d : Int) → d < k → 0 ≤ c → c + d ≤ 1000000000000 → over ≤ 1000000000000 →
    aneroidref17_Mean.l2 k x0 over c = some (c + d, 0) := by
  induction d with
  | zero =>
    intro k over c h0 hd hk hc hb ho
    obtain ⟨k, rfl⟩ : ∃ m, k = m + 1 := ⟨k - 1, by omega⟩
    have hlt : over < n := by
      have := Int.lt_ediv_add_one_mul_self over hp
      rw [hd] at this
      simpa using this
    simp only [aneroidref17_Mean.l2]
    rw [if_neg (by omega)]
    simp
  | succ d ih =>
    intro k over c h0 hd hk hc hb ho
    obtain ⟨k, rfl⟩ : ∃ m, k = m + 1 := ⟨k - 1, by omega⟩
    have hge : n ≤ over := by
      rcases Int.lt_or_le over n with h | h
      · rw [Int.ediv_eq_zero_of_lt h0 h] at hd
        omega
      · exact h
    have hd' : (over - n) / n = (d : Int) := by
      have h := Int.sub_ediv_of_dvd over (Int.dvd_refl n)
      rw [h, Int.ediv_self (by omega), hd]
      omega
    simp only [aneroidref17_Mean.l2]
    rw [if_pos (by omega), hn, w64 (by omega) (by omega), w64 (by omega) (by omega), ih k (over - n) (c + 1) (by omega) hd' (by omega) (by omega) (by omega) (by omega)]
    congr 2
    omega

/-- The reference's second loop. -/
theorem ref_l1 (x0 : List Int) (least : Int) (hl : x0.length ≤ 1000000) (hlo : 90528 ≤ least) (hx0 : 0 < x0.length) : ∀ (rest pre : List Int) (over : Int) (k : Nat), x0 = pre ++ rest → (∀ x ∈ rest, least ≤ x ∧ x ≤ 430515) → rest.length + 430516 < k → 0 ≤ over → over ≤ 430515 * (pre.length : Int) →
    over + (rest.sum - least * (rest.length : Int)) ≤ 430515 * (x0.length : Int) → least ≤ 430515 →
    aneroidref17_Mean.l1 k x0 least over (pre.length : Int) = some (least + (over + (rest.sum - least * (rest.length : Int))) / (x0.length : Int), 0) := by
  intro rest
  induction rest with
  | nil =>
    intro pre over k hx hall hk h0 h1 hb hl4
    obtain ⟨k, rfl⟩ : ∃ m, k = m + 1 := ⟨k - 1, by omega⟩
    have hlen : x0.length = pre.length := by rw [hx]; simp
    simp only [aneroidref17_Mean.l1]
    rw [if_neg (by omega)]
    have hq0 : 0 ≤ over / (x0.length : Int) := Int.ediv_nonneg h0 (by omega)
    have hq1 : over / (x0.length : Int) ≤ 430515 := by
      have h := Int.ediv_le_ediv (c := (x0.length : Int)) (by omega) (show over ≤ 430515 * (x0.length : Int) by omega)
      rwa [Int.mul_ediv_cancel _ (by omega)] at h
    have h := ref_l2 x0 x0.length rfl (by omega) (over / (x0.length : Int)).toNat k over least h0 (by omega) (by simp only [List.length_nil] at hk; omega) (by omega) (by omega) (by omega)
    rw [h]
    simp only [List.sum_nil, List.length_nil]
    congr 2
    rw [show over + (0 - least * ((0 : Nat) : Int)) = over from by simp]
    omega
  | cons x t ih =>
    intro pre over k hx hall hk h0 h1 hb hl4
    obtain ⟨k, rfl⟩ : ∃ m, k = m + 1 := ⟨k - 1, by omega⟩
    have hlen : x0.length = pre.length + (t.length + 1) := by rw [hx]; simp
    have hrd : rd x0 (pre.length : Int) = x := by rw [hx]; exact rd_mid _ _ _
    have hxb := hall x (by simp)
    simp only [List.sum_cons, List.length_cons] at hb hk ⊢
    have hmul : least * ((t.length + 1 : Nat) : Int) = least * (t.length : Int) + least := by
      rw [show ((t.length + 1 : Nat) : Int) = (t.length : Int) + 1 from by omega, Int.mul_add, Int.mul_one]
    simp only [aneroidref17_Mean.l1]
    rw [if_pos (by omega), if_pos (by omega), hrd, w64 (x := over + x) (by omega) (by omega), w64 (x := over + x - least) (by omega) (by omega), w64 (x := (pre.length : Int) + 1) (by omega) (by omega)]
    have hi := ih (pre ++ [x]) (over + x - least) k (by rw [hx]; simp) (fun y hy => hall y (by simp [hy])) (by omega) (by omega) (by simp only [List.length_append, List.length_cons, List.length_nil]; omega) (by rw [hmul] at hb; omega) hl4
    simp only [List.length_append, List.length_cons, List.length_nil, Nat.zero_add, Int.natCast_add, Int.cast_ofNat_Int] at hi
    rw [hi, hmul, show over + x - least + (t.sum - least * (t.length : Int)) = over + (x + t.sum - (least * (t.length : Int) + least)) from by omega]

/-- The reference's first loop. -/
theorem ref_l0 (x0 : List Int) (hl : x0.length ≤ 1000000) (hx0 : 0 < x0.length) : ∀ (rest pre : List Int) (least : Int) (k : Nat), x0 = pre ++ rest → rest.length + x0.length + 430520 < k → (∀ x ∈ pre, least ≤ x) → (pre = [] → rest ≠ []) →
    (pre ≠ [] → 90528 ≤ least ∧ least ≤ 430515) → allG pre = true → (pre = [] → ∃ t, rest = least :: t) →
    aneroidref17_Mean.l0 k x0 least (pre.length : Int) = some (if allG rest then (x0.sum / (x0.length : Int), 0) else (0, 2)) := by
  intro rest
  induction rest with
  | nil =>
    intro pre least k hx hk hle hne hlo hgp _
    obtain ⟨k, rfl⟩ : ∃ m, k = m + 1 := ⟨k - 1, by omega⟩
    have hlen : x0.length = pre.length := by rw [hx]; simp
    have hpne : pre ≠ [] := fun h => hne h rfl
    have hx' : x0 = pre := by rw [hx]; simp
    have hlo' := hlo hpne
    have hg0 : allG x0 = true := by rw [hx']; exact hgp
    have hsb := sum_bounds x0 hg0
    simp only [aneroidref17_Mean.l0]
    rw [if_neg (by omega)]
    have hmono : ∀ l : List Int, (∀ x ∈ l, least ≤ x) → least * (l.length : Int) ≤ l.sum := by
      intro l
      induction l with
      | nil => intro _; simp
      | cons y t ih =>
        intro h
        have h1 := h y (by simp)
        have h2 := ih (fun z hz => h z (by simp [hz]))
        simp only [List.sum_cons, List.length_cons]
        rw [show ((t.length + 1 : Nat) : Int) = (t.length : Int) + 1 from by omega, Int.mul_add, Int.mul_one]
        omega
    have hm := hmono x0 (by rw [hx']; exact hle)
    have hnn : 0 ≤ least * (x0.length : Int) := Int.mul_nonneg (by omega) (by omega)
    have h := ref_l1 x0 least hl hlo'.1 hx0 x0 [] 0 k rfl (fun x hx2 => ⟨by rw [hx'] at hx2; exact hle x hx2, by
      have := List.all_eq_true.1 hg0 x hx2
      exact (good_ok this).2⟩) (by simp only [List.length_nil] at hk; omega) (by omega) (by simp) (by omega) hlo'.2
    simp only [List.length_nil, Int.cast_ofNat_Int, Int.zero_add] at h
    rw [h]
    have e : least + (x0.sum - least * (x0.length : Int)) / (x0.length : Int) = x0.sum / (x0.length : Int) := by
      rw [Int.sub_ediv_of_dvd _ (Int.dvd_mul_left _ _), Int.mul_ediv_cancel _ (by omega)]
      omega
    rw [e]
    simp [allG]
  | cons x t ih =>
    intro pre least k hx hk hle hne hlo hgp hfirst
    obtain ⟨k, rfl⟩ : ∃ m, k = m + 1 := ⟨k - 1, by omega⟩
    have hlen : x0.length = pre.length + (t.length + 1) := by rw [hx]; simp
    have hrd : rd x0 (pre.length : Int) = x := by rw [hx]; exact rd_mid _ _ _
    simp only [List.length_cons] at hk
    simp only [aneroidref17_Mean.l0]
    rw [if_pos (by omega), if_pos (by omega), hrd, ref_good]
    simp only [Option.bind_some]
    by_cases hg : ok x = true
    · have hb := good_ok hg
      rw [if_pos hg]
      have hgp' : allG (pre ++ [x]) = true := by
        simp only [allG, List.all_append, List.all_cons, List.all_nil, Bool.and_true, hg]
        exact hgp
      have hgoal : allG (x :: t) = allG t := by simp only [allG, List.all_cons, hg, Bool.true_and]
      rw [hgoal]
      by_cases hlt : x < least
      · rw [if_pos hlt, w64 (by omega) (by omega)]
        have hi := ih (pre ++ [x]) x k (by rw [hx]; simp) (by omega) (by
          intro y hy
          rcases List.mem_append.1 hy with hy | hy
          · have := hle y hy; omega
          · simp at hy; omega) (by simp) (fun _ => hb) hgp' (by simp)
        simp only [List.length_append, List.length_cons, List.length_nil, Nat.zero_add, Int.natCast_add, Int.cast_ofNat_Int] at hi
        exact hi
      · rw [if_neg hlt, w64 (by omega) (by omega)]
        have hi := ih (pre ++ [x]) least k (by rw [hx]; simp) (by omega) (by
          intro y hy
          rcases List.mem_append.1 hy with hy | hy
          · exact hle y hy
          · simp at hy; omega) (by simp) (fun _ => by
            by_cases hp : pre = []
            · obtain ⟨t', ht'⟩ := hfirst hp
              injection ht' with h1 h2
              subst h1
              exact hb
            · exact hlo hp) hgp' (by simp)
        simp only [List.length_append, List.length_cons, List.length_nil, Nat.zero_add, Int.natCast_add, Int.cast_ofNat_Int] at hi
        exact hi
    · rw [if_neg hg]
      simp [allG, hg]

theorem ref_tells (l : List Int) (hl : l.length ≤ 1000000) (k : Nat) (hk : l.length + l.length + 430520 < k) :
    aneroidref17_Mean.f k l = some (if l = [] then (0, 4) else if allG l then (l.sum / (l.length : Int), 0) else (0, 2)) := by
  unfold aneroidref17_Mean.f
  cases l with
  | nil => simp
  | cons x t =>
    rw [if_neg (by simp only [List.length_cons]; omega), if_pos (by simp only [List.length_cons]; omega), if_neg (by simp)]
    have h := ref_l0 (x :: t) hl (by simp) (x :: t) [] x k rfl hk (by simp) (by simp) (by simp) (by simp [allG]) (fun _ => ⟨t, rfl⟩)
    simp only [List.length_nil, Int.cast_ofNat_Int] at h
    have hrd : rd (x :: t) 0 = x := rfl
    rw [hrd]
    exact h

theorem fixed_tells (k : Nat) (hk : 2 < k) : aneroidlaw17_fixed.f k = some true := by
  unfold aneroidlaw17_fixed.f
  rw [of_tells [100000, 100001] (by decide) k hk]
  rfl

/-- The law's loop: what was handed in stays. -/
theorem law_loop (x0 : List Int) (hl : x0.length ≤ 1000000) (m e : Int) : ∀ (d : Nat) (i : Int) (k : Nat), 0 ≤ i → i ≤ x0.length → (x0.length : Int) - i = d → d + 3 < k →
    aneroidlaw17_MeanOf.l0 k x0 x0 m e m e (x0.length : Int) i = some true := by
  intro d
  induction d with
  | zero =>
    intro i k h0 h1 hd hk
    obtain ⟨k, rfl⟩ : ∃ m, k = m + 1 := ⟨k - 1, by omega⟩
    simp only [aneroidlaw17_MeanOf.l0]
    rw [if_neg (by omega), fixed_tells k (by omega)]
    simp
  | succ d ih =>
    intro i k h0 h1 hd hk
    obtain ⟨k, rfl⟩ : ∃ m, k = m + 1 := ⟨k - 1, by omega⟩
    simp only [aneroidlaw17_MeanOf.l0]
    rw [if_pos (by omega), if_pos (by omega), if_pos (by omega), if_pos (by omega), if_pos trivial, w64 (by omega) (by omega)]
    exact ih (i + 1) k (by omega) (by omega) (by omega) (by omega)

end Mo

theorem MeanOf : aneroidlaw17_MeanOf.Pure := by
  intro l h1 h2 h3
  obtain ⟨k, hk⟩ : ∃ k, 500000 ≤ k := ⟨_, Nat.le_refl _⟩
  refine ⟨k, ?_⟩
  unfold aneroidlaw17_MeanOf.f
  by_cases hl : (l.length : Int) > 200
  · rw [if_pos hl, Mo.fixed_tells k (by omega)]
    rfl
  · rw [if_neg hl]
    simp only [Option.bind_some, List.nil_append, List.length_nil]
    rw [if_pos (by omega), Mo.of_tells l (by omega) k (by omega), Mo.ref_tells l (by omega) k (by omega)]
    simp only [Option.bind_some]
    exact Mo.law_loop l (by omega) _ _ l.length 0 k (by omega) (by omega) (by omega) (by omega)

end Go.Proofs.Ytoknlaknffpigaa.Pure
