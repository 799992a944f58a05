/- The document's whole numbers of any size (layer 1), in plain numbers: what sum, rest, less, low and Power compute. -/
import Derived.Test.YtofmingbmcinhaaDoorBase2
namespace Go.Proofs.YtofmingbmcinhaaDoor.Bg
open Go.RowKit Go.Proofs.YtofmingbmcinhaaDoorW.PrintWords Go.Proofs.YtofmingbmcinhaaDoorW.PrintLast Go.Proofs.YtofmingbmcinhaaDoorW.PrintMore Go.Proofs.YtofmingbmcinhaaDoor.PGroundPlays

theorem w64 {x : Int} (h0 : -9223372036854775808 ≤ x) (h1 : x ≤ 9223372036854775807) : wrap64 x = x := by
  unfold wrap64
  omega
theorem u64 {x : Int} (h0 : 0 ≤ x) (h1 : x < 18446744073709551616) : IntKind.u64.wrap x = x := by
  rw [IntKind.wrap_u64]
  omega
def val : List Int → Int
  | [] => 0
  | d :: r => d + 65536 * val r
def Dg (l : List Int) : Prop := ∀ d ∈ l, 0 ≤ d ∧ d < 65536
def Norm (l : List Int) : Prop := ∀ n : Nat, l.length = n + 1 → rd l (n : Int) ≠ 0

theorem rd_nat (l : List Int) (j : Nat) : rd l (j : Int) = l.getD j 0 := by unfold rd; rw [Int.toNat_natCast]
theorem rd_in {l : List Int} {j : Nat} (h : j < l.length) : rd l (j : Int) = l[j] := by rw [rd_nat, List.getD_eq_getElem?_getD, List.getElem?_eq_getElem h]; rfl
theorem rd_out {l : List Int} {j : Nat} (h : l.length ≤ j) : rd l (j : Int) = 0 := by rw [rd_nat, List.getD_eq_getElem?_getD, List.getElem?_eq_none h]; rfl
theorem Dg.rd {l : List Int} (h : Dg l) (j : Nat) : 0 ≤ rd l (j : Int) ∧ rd l (j : Int) < 65536 := by
  rcases Nat.lt_or_ge j l.length with hj | hj
  · rw [rd_in hj]
    exact h _ (List.getElem_mem hj)
  · rw [rd_out hj]
    decide
theorem Dg.drop {l : List Int} (h : Dg l) (j : Nat) : Dg (l.drop j) := fun x hx => h x (List.mem_of_mem_drop hx)
theorem Dg.take {l : List Int} (h : Dg l) (j : Nat) : Dg (l.take j) := fun x hx => h x (List.mem_of_mem_take hx)
theorem Dg.append {a b : List Int} (ha : Dg a) (hb : Dg b) : Dg (a ++ b) := fun x hx => (List.mem_append.1 hx).elim (ha x) (hb x)
theorem Dg.one {x : Int} (h0 : 0 ≤ x) (h1 : x < 65536) : Dg [x] := fun y hy => by
  rw [List.mem_singleton] at hy
  subst hy
  exact ⟨h0, h1⟩
theorem Dg.nil : Dg [] := fun x hx => by simp at hx
theorem val_drop (l : List Int) (j : Nat) : val (l.drop j) = rd l (j : Int) + 65536 * val (l.drop (j + 1)) := by
  rcases Nat.lt_or_ge j l.length with hj | hj
  · rw [List.drop_eq_getElem_cons hj, val, rd_in hj]
  · rw [rd_out hj, List.drop_eq_nil_of_le hj, List.drop_eq_nil_of_le (by omega)]
    rfl
theorem val_end {l : List Int} {j : Nat} (h : l.length ≤ j) : val (l.drop j) = 0 := by rw [List.drop_eq_nil_of_le h]; rfl
theorem val_nonneg : ∀ {l : List Int}, Dg l → 0 ≤ val l
  | [], _ => Int.le_refl _
  | d :: r, h => by
    have h1 := h d List.mem_cons_self
    have h2 := val_nonneg (l := r) (fun x hx => h x (List.mem_cons_of_mem _ hx))
    unfold val
    omega
theorem val_snoc0 (l : List Int) : val (l ++ [0]) = val l := by
  induction l with
  | nil => rfl
  | cons d r ih => rw [List.cons_append, val, val, ih]

theorem digit_f (l : List Int) (j : Nat) : aneroidref01_digit.f l (j : Int) = some (rd l (j : Int)) := by
  unfold aneroidref01_digit.f
  rcases Nat.lt_or_ge j l.length with hj | hj
  · rw [if_pos (by omega), if_pos (by omega)]
  · rw [if_neg (by omega), rd_out hj]

theorem cast_succ (j : Nat) (hj : j < 1000000) : wrap64 ((j : Int) + 1) = ((j + 1 : Nat) : Int) := by rw [w64 (by omega) (by omega)]; omega

theorem sum_last (a b x : List Int) (j : Nat) (k : Nat) (ha : a.length ≤ j) (hb : b.length ≤ j) :
    aneroidref01_sum.l0 (k + 2) a b x 0 (j : Int) = some x := by
  rw [aneroidref01_sum.l0, if_neg (by omega), if_neg (by omega), aneroidref01_sum.j1]
  rfl
theorem sum_round (a b x : List Int) (c : Int) (j k : Nat) (hj : j < 100000) (hx : x.length < 100000) (hd : Dg a) (he : Dg b) (hc : 0 ≤ c ∧ c ≤ 1) (hgo : j < a.length ∨ j < b.length ∨ 0 < c) :
    aneroidref01_sum.l0 (k + 2) a b x c (j : Int) = aneroidref01_sum.l0 k a b (x ++ [(rd a (j : Int) + rd b (j : Int) + c) % 65536]) ((rd a (j : Int) + rd b (j : Int) + c) / 65536) ((j + 1 : Nat) : Int) := by
  have h1 := hd.rd j
  have h2 := he.rd j
  have e : aneroidref01_sum.l0 (k + 2) a b x c (j : Int) = aneroidref01_sum.j1 (k + 1) a b x c (j : Int) true := by
    rw [aneroidref01_sum.l0]
    by_cases ca : (j : Int) < (a.length : Int)
    · rw [if_pos ca]
    · rw [if_neg ca]
      by_cases cb : (j : Int) < (b.length : Int)
      · rw [if_pos cb]
      · rw [if_neg cb, decide_eq_true (by omega)]
  rw [e, aneroidref01_sum.j1, if_pos rfl, digit_f, digit_f]
  simp only [Option.bind_some]
  generalize rd a (j : Int) = p at *
  generalize rd b (j : Int) = q at *
  rw [if_pos (by omega), u64 (x := p + q) (by omega) (by omega), u64 (x := p + q + c) (by omega) (by omega), Int.tmod_eq_emod_of_nonneg (by omega), Int.tdiv_eq_ediv_of_nonneg (by omega), u64 (x := (p + q + c) / 65536) (by omega) (by omega), cast_succ j (by omega)]

theorem sum_run (a b : List Int) (hd : Dg a) (he : Dg b) : ∀ (n j : Nat) (x : List Int) (c : Int), a.length ≤ j + n → b.length ≤ j + n → x.length = j → j + n < 10000 → (0 ≤ c ∧ c ≤ 1) → Dg x →
    ∃ s, aneroidref01_sum.l0 (2 * n + 4) a b x c (j : Int) = some (x ++ s) ∧ Dg s ∧ s.length ≤ n + 1 ∧ val s = c + val (a.drop j) + val (b.drop j) := by
  intro n
  induction n with
  | zero =>
    intro j x c h1 h2 hx hj hc hdx
    rw [Nat.add_zero] at h1 h2
    rw [val_end h1, val_end h2]
    by_cases h0 : c = 0
    · subst h0
      exact ⟨[], by rw [sum_last a b x j 2 (by omega) (by omega), List.append_nil], Dg.nil, by simp, rfl⟩
    · have h1' : c = 1 := by omega
      subst h1'
      refine ⟨[1], ?_, Dg.one (by decide) (by decide), by simp, rfl⟩
      rw [show 2 * 0 + 4 = 2 + 2 by omega, sum_round a b x 1 j 2 (by omega) (by omega) hd he (by omega) (by omega), rd_out (by omega : a.length ≤ j), rd_out (by omega : b.length ≤ j)]
      exact sum_last a b _ (j + 1) 0 (by omega) (by omega)
  | succ n ih =>
    intro j x c h1 h2 hx hj hc hdx
    by_cases hgo : j < a.length ∨ j < b.length ∨ 0 < c
    · have g1 := hd.rd j
      have g2 := he.rd j
      have v1 := val_drop a j
      have v2 := val_drop b j
      rw [show 2 * (n + 1) + 4 = (2 * n + 4) + 2 by omega, sum_round a b x c j _ (by omega) (by omega) hd he hc hgo]
      generalize rd a (j : Int) = p at *
      generalize rd b (j : Int) = q at *
      obtain ⟨s, e, hs, hl, hv⟩ := ih (j + 1) (x ++ [(p + q + c) % 65536]) ((p + q + c) / 65536) (by omega) (by omega) (by simp [hx]) (by omega) (by omega) (hdx.append (Dg.one (by omega) (by omega)))
      refine ⟨(p + q + c) % 65536 :: s, by rw [e]; simp, ?_, by simp; omega, ?_⟩
      · exact fun y hy => (List.mem_cons.1 hy).elim (fun h => by subst h; omega) (hs y)
      · rw [val, hv]
        omega
    · have h0 : c = 0 := by omega
      subst h0
      refine ⟨[], ?_, Dg.nil, by simp, ?_⟩
      · rw [show 2 * (n + 1) + 4 = (2 * n + 4) + 2 by omega, sum_last a b x j _ (by omega) (by omega), List.append_nil]
      · rw [val_end (by omega), val_end (by omega)]
        rfl
theorem sum_f (a b : List Int) (hd : Dg a) (he : Dg b) (ha : a.length ≤ 1000) (hb : b.length ≤ 1000) :
    ∃ s, aneroidref01_sum.f 2004 a b = some s ∧ Dg s ∧ s.length ≤ 1001 ∧ val s = val a + val b := by
  obtain ⟨s, e, hs, hl, hv⟩ := sum_run a b hd he 1000 0 [] 0 (by omega) (by omega) rfl (by omega) (by omega) Dg.nil
  exact ⟨s, e, hs, hl, by rw [hv]; simp⟩

theorem rest_run (a b : List Int) (hd : Dg a) (he : Dg b) (hlen : b.length ≤ a.length) (hl : a.length ≤ 1000) : ∀ (n j : Nat) (x : List Int) (c : Int), j + n = a.length → x.length = j → (0 ≤ c ∧ c ≤ 1) → val (b.drop j) + c ≤ val (a.drop j) → Dg x →
    ∃ s, aneroidref01_rest.l0 (n + 1) a b x c (j : Int) = some (x ++ s) ∧ Dg s ∧ s.length = n ∧ val s = val (a.drop j) - val (b.drop j) - c := by
  intro n
  induction n with
  | zero =>
    intro j x c hj hx hc hle hdx
    rw [val_end (by omega : a.length ≤ j), val_end (by omega : b.length ≤ j)] at hle ⊢
    refine ⟨[], ?_, Dg.nil, rfl, by simp [val]; omega⟩
    rw [aneroidref01_rest.l0, if_neg (by omega), List.append_nil]
  | succ n ih =>
    intro j x c hj hx hc hle hdx
    have g1 := hd.rd j
    have g2 := he.rd j
    have v1 := val_drop a j
    have v2 := val_drop b j
    rw [aneroidref01_rest.l0, if_pos (by omega), if_pos (by omega), digit_f, Option.bind_some, if_pos (by omega)]
    generalize rd a (j : Int) = p at *
    generalize rd b (j : Int) = q at *
    rw [u64 (x := 65536 + p) (by omega) (by omega), u64 (x := 65536 + p - q) (by omega) (by omega), u64 (x := 65536 + p - q - c) (by omega) (by omega), Int.tmod_eq_emod_of_nonneg (by omega), Int.tdiv_eq_ediv_of_nonneg (by omega),
      u64 (x := (65536 + p - q - c) / 65536) (by omega) (by omega), u64 (x := 1 - (65536 + p - q - c) / 65536) (by omega) (by omega), cast_succ j (by omega)]
    obtain ⟨s, e, hs, hl, hv⟩ := ih (j + 1) (x ++ [(65536 + p - q - c) % 65536]) (1 - (65536 + p - q - c) / 65536) (by omega) (by simp [hx]) (by omega) (by omega) (hdx.append (Dg.one (by omega) (by omega)))
    refine ⟨(65536 + p - q - c) % 65536 :: s, by rw [e]; simp, ?_, by simp [hl], ?_⟩
    · exact fun y hy => (List.mem_cons.1 hy).elim (fun h => by subst h; omega) (hs y)
    · rw [val, hv]
      omega
theorem rest_f (a b : List Int) (hd : Dg a) (he : Dg b) (hlen : b.length ≤ a.length) (hl : a.length ≤ 1000) (hle : val b ≤ val a) :
    ∃ s, aneroidref01_rest.f (a.length + 1) a b = some s ∧ Dg s ∧ s.length = a.length ∧ val s = val a - val b := by
  obtain ⟨s, e, hs, hl, hv⟩ := rest_run a b hd he hlen hl a.length 0 [] 0 (by omega) rfl (by omega) (by simpa using hle) Dg.nil
  exact ⟨s, e, hs, hl, by rw [hv]; simp⟩

/-- What is below from a place on is below. -/
theorem lt_down (a b : List Int) (hd : Dg a) (he : Dg b) : ∀ i : Nat, val (a.drop i) < val (b.drop i) → val a < val b := by
  intro i
  induction i with
  | zero => intro h; simpa using h
  | succ i ih =>
    intro h
    refine ih ?_
    have g1 := hd.rd i
    have g2 := he.rd i
    rw [val_drop a i, val_drop b i]
    omega
theorem eq_down (a b : List Int) (i : Nat) (h : val (a.drop (i + 1)) = val (b.drop (i + 1))) (hr : rd a (i : Int) = rd b (i : Int)) : val (a.drop i) = val (b.drop i) := by
  rw [val_drop a i, val_drop b i, h, hr]
theorem top_pos {l : List Int} (hd : Dg l) (hn : Norm l) (i : Nat) (h : i < l.length) : 0 < val (l.drop i) := by
  obtain ⟨n, hl⟩ : ∃ n, l.length = n + 1 := ⟨l.length - 1, by omega⟩
  have ht := hn n hl
  have hb := hd.rd n
  have key : ∀ m j : Nat, j + m = n → 0 < val (l.drop j) := by
    intro m
    induction m with
    | zero =>
      intro j hj
      have e : j = n := by omega
      subst e
      rw [val_drop, val_end (by omega)]
      omega
    | succ m ih =>
      intro j hj
      have g := hd.rd j
      have := ih (j + 1) (by omega)
      rw [val_drop]
      omega
  exact key (n - i) i (by omega)
theorem len_lt {a b : List Int} (hd : Dg a) (he : Dg b) (hn : Norm b) (h : a.length < b.length) : val a < val b := by
  refine lt_down a b hd he a.length ?_
  rw [val_end (Nat.le_refl _)]
  exact top_pos he hn _ h
theorem less_run (a b : List Int) (hd : Dg a) (he : Dg b) (hlen : a.length = b.length) (hl : a.length ≤ 1000) : ∀ n : Nat, n ≤ a.length → val (a.drop n) = val (b.drop n) →
    aneroidref01_less.l0 (n + 1) a b ((n : Int) - 1) = some (decide (val a < val b)) := by
  intro n
  induction n with
  | zero =>
    intro _ heq
    rw [aneroidref01_less.l0, if_neg (by omega)]
    simp only [List.drop_zero] at heq
    rw [heq, decide_eq_false (Int.lt_irrefl _)]
  | succ n ih =>
    intro hn heq
    have e1 : (((n + 1 : Nat) : Int) - 1) = (n : Int) := by omega
    rw [aneroidref01_less.l0, e1, if_pos (by omega), if_pos (by omega), if_pos (by omega), if_pos (by omega)]
    by_cases hr : rd a (n : Int) = rd b (n : Int)
    · rw [if_pos hr, w64 (by omega) (by omega)]
      exact ih (by omega) (eq_down a b n heq hr)
    · rw [if_neg hr]
      have va := val_drop a n
      have vb := val_drop b n
      by_cases hlt : rd a (n : Int) < rd b (n : Int)
      · rw [decide_eq_true hlt, decide_eq_true (lt_down a b hd he n (by omega))]
      · have := lt_down b a he hd n (by omega)
        rw [decide_eq_false hlt, decide_eq_false (by omega)]
theorem less_f (a b : List Int) (hd : Dg a) (he : Dg b) (hna : Norm a) (hnb : Norm b) (hl : a.length ≤ 1000) (_ : b.length ≤ 1000) : aneroidref01_less.f (a.length + 1) a b = some (decide (val a < val b)) := by
  unfold aneroidref01_less.f
  by_cases h : a.length = b.length
  · rw [if_pos (by omega), w64 (by omega) (by omega)]
    exact less_run a b hd he h hl a.length (Nat.le_refl _) (by rw [val_end (Nat.le_refl _), val_end (by omega)])
  · rw [if_neg (by omega)]
    rcases Nat.lt_or_ge a.length b.length with hlt | hge
    · rw [decide_eq_true (by omega), decide_eq_true (len_lt hd he hnb hlt)]
    · have := len_lt he hd hna (show b.length < a.length by omega)
      rw [decide_eq_false (by omega), decide_eq_false (by omega)]

theorem low_f (l : List Int) (hd : Dg l) (hl : l.length ≤ 4) (hv : val l < 18446744073709551616) : aneroidref01_low.f 5 l = some (val l) := by
  have d0 : val l = rd l 0 + 65536 * val (l.drop 1) := val_drop l 0
  have d1 : val (l.drop 1) = rd l 1 + 65536 * val (l.drop 2) := val_drop l 1
  have d2 : val (l.drop 2) = rd l 2 + 65536 * val (l.drop 3) := val_drop l 2
  have d3 : val (l.drop 3) = rd l 3 + 65536 * val (l.drop 4) := val_drop l 3
  have d4 : val (l.drop 4) = 0 := val_end hl
  have g0 : 0 ≤ rd l 0 ∧ rd l 0 < 65536 := hd.rd 0
  have g1 : 0 ≤ rd l 1 ∧ rd l 1 < 65536 := hd.rd 1
  have g2 : 0 ≤ rd l 2 ∧ rd l 2 < 65536 := hd.rd 2
  have g3 : 0 ≤ rd l 3 ∧ rd l 3 < 65536 := hd.rd 3
  have f0 : aneroidref01_digit.f l 0 = some (rd l 0) := digit_f l 0
  have f1 : aneroidref01_digit.f l 1 = some (rd l 1) := digit_f l 1
  have f2 : aneroidref01_digit.f l 2 = some (rd l 2) := digit_f l 2
  have f3 : aneroidref01_digit.f l 3 = some (rd l 3) := digit_f l 3
  rw [d4] at d3
  unfold aneroidref01_low.f
  generalize rd l 0 = a0 at *
  generalize rd l 1 = a1 at *
  generalize rd l 2 = a2 at *
  generalize rd l 3 = a3 at *
  rw [aneroidref01_low.l0, if_pos (by decide), f3, Option.bind_some, show wrap64 (3 - 1) = 2 by decide +kernel, u64 (x := 65536 * 0) (by omega) (by omega), u64 (x := 65536 * 0 + a3) (by omega) (by omega),
    aneroidref01_low.l0, if_pos (by decide), f2, Option.bind_some, show wrap64 (2 - 1) = 1 by decide +kernel, u64 (x := 65536 * (65536 * 0 + a3)) (by omega) (by omega), u64 (x := 65536 * (65536 * 0 + a3) + a2) (by omega) (by omega),
    aneroidref01_low.l0, if_pos (by decide), f1, Option.bind_some, show wrap64 (1 - 1) = 0 by decide +kernel, u64 (x := 65536 * (65536 * (65536 * 0 + a3) + a2)) (by omega) (by omega), u64 (x := 65536 * (65536 * (65536 * 0 + a3) + a2) + a1) (by omega) (by omega),
    aneroidref01_low.l0, if_pos (by decide), f0, Option.bind_some, u64 (x := 65536 * (65536 * (65536 * (65536 * 0 + a3) + a2) + a1)) (by omega) (by omega), u64 (x := 65536 * (65536 * (65536 * (65536 * 0 + a3) + a2) + a1) + a0) (by omega) (by omega),
    aneroidref01_low.l0, if_neg (by decide +kernel)]
  congr 1
  omega
theorem power40 : aneroidref01_Power.f 20 40 = some (false, [0, 0, 256]) := by decide +kernel
theorem power63 : aneroidref01_Power.f 30 63 = some (false, [0, 0, 0, 32768]) := by decide +kernel

/-- Without digits 0 at the end. -/
theorem take_step (l : List Int) (n : Nat) (h : n < l.length) (hz : rd l (n : Int) = 0) : val (l.take (n + 1)) = val (l.take n) := by
  rw [List.take_succ_eq_append_getElem h, show l[n] = 0 by rw [← rd_in h, hz], val_snoc0]
theorem rd_take {l : List Int} {n j : Nat} (h : j < n) (hn : n ≤ l.length) : rd (l.take n) (j : Int) = rd l (j : Int) := by
  rw [rd_in (by rw [List.length_take]; omega), rd_in (by omega), List.getElem_take]
theorem norm_take {l : List Int} {n : Nat} (hn : n ≤ l.length) (h : ∀ m, n = m + 1 → rd l (m : Int) ≠ 0) : Norm (l.take n) := by
  intro m hm
  rw [List.length_take, Nat.min_eq_left hn] at hm
  rw [rd_take (by omega) hn]
  exact h m hm
end Go.Proofs.YtofmingbmcinhaaDoor.Bg
