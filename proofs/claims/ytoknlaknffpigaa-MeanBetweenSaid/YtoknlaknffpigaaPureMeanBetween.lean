/- A mean is from the least count to the greatest one, and good; of counts that are alike it is that count; with all counts one greater it is one greater, if these are good: the law MeanBetween of layer 17 returns true for every list of numbers and every small number, with no further condition. -/
import Derived.Test.YtoknlaknffpigaaPMeanBetweenx1
namespace Go.Proofs.Ytoknlaknffpigaa.Pure
open Go.RowKit Go.Proofs.Ytoknlaknffpigaa.PMeanBetween Go.Proofs.YtoknlaknffpigaaW.PrintWords Go.Proofs.YtoknlaknffpigaaW.PrintLast
namespace Mb

def ok (x : Int) : Bool := decide (90528 ≤ x ∧ x ≤ 430515)
def allG (l : List Int) : Bool := l.all ok

theorem w64 {x : Int} (h0 : -9223372036854775808 ≤ x) (h1 : x ≤ 9223372036854775807) : wrap64 x = x := by
  unfold wrap64
  omega

theorem rd_mid (pre t : List Int) (x : Int) : rd (pre ++ x :: t) (pre.length : Int) = x := by
  unfold rd
  simp

theorem good_ok {x : Int} (h : ok x = true) : 90528 ≤ x ∧ x ≤ 430515 := by
  simpa [ok] using h

theorem atmos_good (x : Int) : atmos_Good.f x = some (ok x) := by
  unfold atmos_Good.f ok
  by_cases h : 90528 ≤ x
  · rw [if_pos h]
    by_cases h2 : x ≤ 430515 <;> simp [h, h2]
  · rw [if_neg h]
    simp [h]

theorem sum_bounds (l : List Int) (h : allG l = true) : 90528 * (l.length : Int) ≤ l.sum ∧ l.sum ≤ 430515 * (l.length : Int) := by
  induction l with
  | nil => simp
  | cons x t ih =>
    simp only [allG, List.all_cons, Bool.and_eq_true] at h
    have hx := good_ok h.1
    have ht := ih h.2
    simp only [List.sum_cons, List.length_cons]
    omega

/-- The program's loop. -/
theorem of_loop (x0 : List Int) (hx0 : (x0.length : Int) ≠ 0) (hl : x0.length ≤ 1000000) : ∀ (rest pre : List Int) (acc : Int) (k : Nat), x0 = pre ++ rest → rest.length < k → 0 ≤ acc → acc ≤ 430515 * (pre.length : Int) →
    mean_Of.l0 k x0 acc x0 (x0.length : Int) (pre.length : Int) = some (if allG rest then (Int.tdiv (acc + rest.sum) (x0.length : Int), 0) else (0, 2)) := by
  intro rest
  induction rest with
  | nil =>
    intro pre acc k hx hk h0 h1
    obtain ⟨k, rfl⟩ : ∃ m, k = m + 1 := ⟨k - 1, by omega⟩
    have hlen : x0.length = pre.length := by rw [hx]; simp
    simp only [mean_Of.l0]
    rw [if_neg (by omega), if_neg hx0]
    have hq : wrap64 (Int.tdiv acc (x0.length : Int)) = Int.tdiv acc (x0.length : Int) := by
      have hd : 0 ≤ Int.tdiv acc (x0.length : Int) := Int.tdiv_nonneg h0 (by omega)
      have hd2 : Int.tdiv acc (x0.length : Int) ≤ acc := by
        rw [Int.tdiv_eq_ediv_of_nonneg h0]
        exact Int.ediv_le_self _ h0
      exact w64 (by omega) (by omega)
    rw [hq]
    simp [allG]
  | cons x t ih =>
    intro pre acc k hx hk h0 h1
    obtain ⟨k, rfl⟩ : ∃ m, k = m + 1 := ⟨k - 1, by omega⟩
    have hlen : x0.length = pre.length + (t.length + 1) := by rw [hx]; simp
    have hrd : rd x0 (pre.length : Int) = x := by rw [hx]; exact rd_mid _ _ _
    simp only [mean_Of.l0]
    rw [if_pos (by omega), if_pos (by omega), if_pos (by omega), hrd, atmos_good]
    simp only [Option.bind_some]
    by_cases hg : ok x = true
    · have hb := good_ok hg
      rw [if_pos hg, w64 (by omega) (by omega), w64 (by omega) (by omega)]
      have hi := ih (pre ++ [x]) (acc + x) k (by rw [hx]; simp) (by simp only [List.length_cons] at hk; omega) (by omega) (by simp only [List.length_append, List.length_cons, List.length_nil]; omega)
      simp only [List.length_append, List.length_cons, List.length_nil, Nat.zero_add, Int.natCast_add, Int.cast_ofNat_Int] at hi
      rw [hi]
      simp only [allG, List.all_cons, hg, Bool.true_and, List.sum_cons, Int.add_assoc]
    · rw [if_neg hg]
      simp [allG, hg]

theorem of_tells (l : List Int) (hl : l.length ≤ 1000000) (k : Nat) (hk : l.length < k) :
    mean_Of.f k l = some (if l = [] then (0, 4) else if allG l then (l.sum / (l.length : Int), 0) else (0, 2)) := by
  unfold mean_Of.f
  cases l with
  | nil => simp
  | cons x t =>
    rw [if_neg (by simp only [List.length_cons]; omega), if_neg (by simp)]
    have h := of_loop (x :: t) (by simp only [List.length_cons]; omega) hl (x :: t) [] 0 k rfl hk (by omega) (by simp)
    simp only [List.length_nil, Int.cast_ofNat_Int, Int.zero_add] at h
    refine h.trans ?_
    by_cases hg : allG (x :: t) = true
    · rw [if_pos hg, if_pos hg, Int.tdiv_eq_ediv_of_nonneg]
      have := sum_bounds _ hg
      omega
    · rw [if_neg hg, if_neg hg]

theorem fixed_tells (k : Nat) (hk : 2 < k) : aneroidlaw17_fixed.f k = some true := by
  unfold aneroidlaw17_fixed.f
  rw [of_tells [100000, 100001] (by decide) k hk]
  rfl


theorem all_mem {l : List Int} (h : allG l = true) {x : Int} (hx : x ∈ l) : 90528 ≤ x ∧ x ≤ 430515 := good_ok (List.all_eq_true.1 h x hx)

theorem sum_le (l : List Int) (b : Int) (h : ∀ x ∈ l, x ≤ b) : l.sum ≤ b * (l.length : Int) := by
  induction l with
  | nil => simp
  | cons y t ih =>
    have h1 := h y (by simp)
    have h2 := ih (fun z hz => h z (by simp [hz]))
    simp only [List.sum_cons, List.length_cons]
    rw [show ((t.length + 1 : Nat) : Int) = (t.length : Int) + 1 from by omega, Int.mul_add, Int.mul_one]
    omega

theorem le_sum (l : List Int) (b : Int) (h : ∀ x ∈ l, b ≤ x) : b * (l.length : Int) ≤ l.sum := by
  induction l with
  | nil => simp
  | cons y t ih =>
    have h1 := h y (by simp)
    have h2 := ih (fun z hz => h z (by simp [hz]))
    simp only [List.sum_cons, List.length_cons]
    rw [show ((t.length + 1 : Nat) : Int) = (t.length : Int) + 1 from by omega, Int.mul_add, Int.mul_one]
    omega

theorem sum_more (l : List Int) : (l.map (· + 1)).sum = l.sum + (l.length : Int) := by
  induction l with
  | nil => simp
  | cons y t ih =>
    simp only [List.map_cons, List.sum_cons, List.length_cons, ih]
    omega

theorem sum_rep (x : Int) (n : Nat) : (List.replicate n x).sum = x * (n : Int) := by
  induction n with
  | zero => simp
  | succ n ih =>
    rw [List.replicate_succ, List.sum_cons, ih, show ((n + 1 : Nat) : Int) = (n : Int) + 1 from by omega, Int.mul_add, Int.mul_one]
    omega

/-- What the law asks behind its loops. -/
theorem law_end (x0 : List Int) (hl : x0.length ≤ 200) (hp : 0 < x0.length) (hg : allG x0 = true) (lo hi : Int) (hlo : ∀ x ∈ x0, lo ≤ x) (hhi : ∀ x ∈ x0, x ≤ hi) (hb0 : 90528 ≤ lo) (hb1 : hi ≤ 430515) (c : Nat) (hc : c ≤ 40) (hc0 : 0 < c) (k : Nat) (hk : 300 < k) :
    aneroidlaw17_MeanBetween.l1 (k + 1) x0 (x0.sum / (x0.length : Int)) lo hi (x0.map (· + 1)) (List.replicate c (rd x0 0)) (c : Int) (c : Int) = some true := by
  have hx : rd x0 0 ∈ x0 := by
    unfold rd
    cases x0 with
    | nil => simp at hp
    | cons y t => simp
  have hfirst := all_mem hg hx
  have h1 : lo ≤ x0.sum / (x0.length : Int) := by
    have h := Int.ediv_le_ediv (c := (x0.length : Int)) (by omega) (le_sum x0 lo hlo)
    rwa [Int.mul_ediv_cancel _ (by omega)] at h
  have h2 : x0.sum / (x0.length : Int) ≤ hi := by
    have h := Int.ediv_le_ediv (c := (x0.length : Int)) (by omega) (sum_le x0 hi hhi)
    rwa [Int.mul_ediv_cancel _ (by omega)] at h
  have hrep : allG (List.replicate c (rd x0 0)) = true := by
    refine List.all_eq_true.2 fun y hy => ?_
    rw [List.eq_of_mem_replicate hy]
    simp [ok, hfirst]
  have hsame : mean_Of.f k (List.replicate c (rd x0 0)) = some (rd x0 0, 0) := by
    rw [of_tells _ (by simp; omega) k (by simp; omega), if_neg (by intro h; have := congrArg List.length h; simp at this; omega), if_pos hrep, sum_rep, List.length_replicate, Int.mul_ediv_cancel _ (by omega)]
  have hmap : x0.map (· + 1) ≠ [] := by
    intro h
    have h2 := congrArg List.length h
    rw [List.length_map] at h2
    simp only [List.length_nil] at h2
    omega
  simp only [aneroidlaw17_MeanBetween.l1]
  rw [if_neg (Int.lt_irrefl _), of_tells _ (by simp; omega) k (by simp; omega), if_neg hmap]
  simp only [Option.bind_some]
  rw [hsame]
  simp only [Option.bind_some]
  rw [fixed_tells k (by omega)]
  simp only [Option.bind_some]
  rw [if_pos trivial, if_pos (by omega), if_pos (by omega), atmos_good]
  simp only [Option.bind_some]
  have hgm : ok (x0.sum / (x0.length : Int)) = true := by
    unfold ok
    exact decide_eq_true ⟨by omega, by omega⟩
  rw [if_pos hgm, if_pos (by omega), if_pos trivial, if_pos trivial]
  by_cases hm : allG (x0.map (· + 1)) = true
  · rw [if_pos hm]
    dsimp only
    rw [if_pos rfl]
    have e : (x0.map (· + 1)).sum / ((x0.map (· + 1)).length : Int) = x0.sum / (x0.length : Int) + 1 := by
      rw [sum_more, List.length_map, Int.add_ediv_of_dvd_right (Int.dvd_refl _), Int.ediv_self (by omega)]
    rw [w64 (by omega) (by omega), if_pos e]
  · rw [if_neg hm]
    dsimp only
    rw [if_neg (by decide), if_pos rfl]
    have hex : hi = 430515 := by
      rcases Int.lt_or_le hi 430515 with h | h
      · refine absurd (List.all_eq_true.2 fun y hy => ?_) hm
        obtain ⟨x, hx, rfl⟩ := List.mem_map.1 hy
        have := all_mem hg hx
        have := hhi x hx
        unfold ok
        exact decide_eq_true ⟨by omega, by omega⟩
      · omega
    rw [hex]
    rfl

/-- The law's second loop: counts that are alike. -/
theorem law_l1 (x0 : List Int) (hl : x0.length ≤ 200) (hp : 0 < x0.length) (hg : allG x0 = true) (lo hi : Int) (hlo : ∀ x ∈ x0, lo ≤ x) (hhi : ∀ x ∈ x0, x ≤ hi) (hb0 : 90528 ≤ lo) (hb1 : hi ≤ 430515) (c : Nat) (hc : c ≤ 40) (hc0 : 0 < c) : ∀ (d i k : Nat), i + d = c → d + 302 < k →
    aneroidlaw17_MeanBetween.l1 k x0 (x0.sum / (x0.length : Int)) lo hi (x0.map (· + 1)) (List.replicate i (rd x0 0)) (c : Int) (i : Int) = some true := by
  intro d
  induction d with
  | zero =>
    intro i k hi2 hk
    obtain ⟨k, rfl⟩ : ∃ m, k = m + 1 := ⟨k - 1, by omega⟩
    obtain rfl : i = c := by omega
    exact law_end x0 hl hp hg lo hi hlo hhi hb0 hb1 i hc hc0 k (by omega)
  | succ d ih =>
    intro i k hi2 hk
    obtain ⟨k, rfl⟩ : ∃ m, k = m + 1 := ⟨k - 1, by omega⟩
    simp only [aneroidlaw17_MeanBetween.l1]
    rw [if_pos (by omega), if_pos (by omega), if_pos (by simp; omega), w64 (by omega) (by omega), ← List.replicate_succ']
    exact ih (i + 1) k (by omega) (by omega)

theorem mn_le (a b : Int) : mn a b ≤ a ∧ mn a b ≤ b ∧ (mn a b = a ∨ mn a b = b) := by
  unfold mn
  split <;> omega
theorem mx_ge (a b : Int) : a ≤ mx a b ∧ b ≤ mx a b ∧ (mx a b = a ∨ mx a b = b) := by
  unfold mx
  split <;> omega

/-- The law's first loop: the least, the greatest, and all one greater. -/
theorem law_l0 (x0 : List Int) (hl : x0.length ≤ 200) (hp : 0 < x0.length) (hg : allG x0 = true) (n : Int) (hn0 : 0 ≤ n) (hn1 : n ≤ 255) : ∀ (rest pre : List Int) (lo hi : Int) (k : Nat), x0 = pre ++ rest → rest.length + 400 < k →
    (∀ x ∈ pre, lo ≤ x) → (∀ x ∈ pre, x ≤ hi) → 90528 ≤ lo → hi ≤ 430515 →
    aneroidlaw17_MeanBetween.l0 k x0 n (x0.sum / (x0.length : Int)) lo hi (pre.map (· + 1)) x0 (x0.length : Int) (pre.length : Int) = some true := by
  intro rest
  induction rest with
  | nil =>
    intro pre lo hi k hx hk h1 h2 h3 h4
    obtain ⟨k, rfl⟩ : ∃ m, k = m + 1 := ⟨k - 1, by omega⟩
    have hlen : x0.length = pre.length := by rw [hx]; simp
    obtain rfl : x0 = pre := by rw [hx]; simp
    simp only [aneroidlaw17_MeanBetween.l0]
    rw [if_neg (by omega), w64 (x := n) (by omega) (by omega), Int.tmod_eq_emod_of_nonneg hn0, w64 (x := 1 + n % 40) (by omega) (by omega)]
    have h := law_l1 x0 hl hp hg lo hi h1 h2 h3 h4 (1 + n % 40).toNat (by omega) (by omega) (1 + n % 40).toNat 0 k (by omega) (by omega)
    rw [show (((1 + n % 40).toNat : Nat) : Int) = 1 + n % 40 from by omega] at h
    exact h
  | cons x t ih =>
    intro pre lo hi k hx hk h1 h2 h3 h4
    obtain ⟨k, rfl⟩ : ∃ m, k = m + 1 := ⟨k - 1, by omega⟩
    have hlen : x0.length = pre.length + (t.length + 1) := by rw [hx]; simp
    have hrd : rd x0 (pre.length : Int) = x := by rw [hx]; exact rd_mid _ _ _
    have hb := all_mem hg (show x ∈ x0 by rw [hx]; simp)
    obtain ⟨a1, a2, a3⟩ := mn_le lo x
    obtain ⟨b1, b2, b3⟩ := mx_ge hi x
    simp only [List.length_cons] at hk
    simp only [aneroidlaw17_MeanBetween.l0]
    rw [if_pos (by omega), if_pos (by omega), if_pos (by omega), if_pos (by simp; omega), hrd, w64 (x := x + 1) (by omega) (by omega), w64 (x := (pre.length : Int) + 1) (by omega) (by omega)]
    have hi := ih (pre ++ [x]) (mn lo x) (mx hi x) k (by rw [hx]; simp) (by omega) (by
      intro y hy
      rcases List.mem_append.1 hy with hy | hy
      · have := h1 y hy; omega
      · simp at hy; omega) (by
      intro y hy
      rcases List.mem_append.1 hy with hy | hy
      · have := h2 y hy; omega
      · simp at hy; omega) (by omega) (by omega)
    simp only [List.length_append, List.length_cons, List.length_nil, Nat.zero_add, Int.natCast_add, Int.cast_ofNat_Int, List.map_append, List.map_cons, List.map_nil] at hi
    exact hi
end Mb

theorem MeanBetween : aneroidlaw17_MeanBetween.Pure := by
  intro l n h1 h2 h3 h4
  have hn : 0 ≤ n ∧ n ≤ 255 := by
    have h5 := h4
    simp [Lit.wf, IntKind.min, IntKind.max, IntKind.signed, IntKind.bits] at h5
    omega
  obtain ⟨k, hk⟩ : ∃ k, 1000 ≤ k := ⟨_, Nat.le_refl _⟩
  refine ⟨k + 1, ?_⟩
  unfold aneroidlaw17_MeanBetween.f
  by_cases hl : (l.length : Int) > 200
  · rw [if_pos hl]
    simp only [aneroidlaw17_MeanBetween.j0]
    rw [if_pos trivial, Mb.fixed_tells k (by omega)]
    rfl
  · rw [if_neg hl]
    by_cases h0 : l.length = 0
    · have e : ((l.length : Int) == 0) = true := by simp [h0]
      simp only [aneroidlaw17_MeanBetween.j0]
      rw [e, if_pos rfl, Mb.fixed_tells k (by omega)]
      rfl
    · have e : ((l.length : Int) == 0) = false := by simp; intro h; simp [h] at h0
      have hne : l ≠ [] := by intro h; simp [h] at h0
      simp only [aneroidlaw17_MeanBetween.j0]
      rw [e, if_neg (by decide), Mb.of_tells l (by omega) k (by omega), if_neg hne]
      simp only [Option.bind_some]
      by_cases hg : Mb.allG l = true
      · rw [if_pos hg]
        dsimp only
        rw [if_pos rfl, if_pos (by omega)]
        have hx : rd l 0 ∈ l := by
          unfold rd
          cases l with
          | nil => simp at h0
          | cons y t => simp
        have hb := Mb.all_mem hg hx
        have h := Mb.law_l0 l (by omega) (by omega) hg n hn.1 hn.2 l [] (rd l 0) (rd l 0) k rfl (by omega) (by simp) (by simp) hb.1 hb.2
        simpa using h
      · rw [if_neg hg]
        dsimp only
        rw [if_neg (by decide), Mb.fixed_tells k (by omega)]
        simp

end Go.Proofs.Ytoknlaknffpigaa.Pure
