/- The document's whole numbers of any size (layer 1): the walks of its Mul. -/
import Derived.Test.YtofmingbmcinhaaDoorBig4
namespace Go.Proofs.YtofmingbmcinhaaDoor.Bg
open Go.RowKit Go.Proofs.YtofmingbmcinhaaDoorW.PrintWords Go.Proofs.YtofmingbmcinhaaDoorW.PrintLast Go.Proofs.YtofmingbmcinhaaDoorW.PrintMore Go.Proofs.YtofmingbmcinhaaDoor.PGroundPlays
set_option linter.unusedVariables false
set_option linter.unusedSimpArgs false

theorem val_app (a b : List Int) : val (a ++ b) = val a + 65536 ^ a.length * val b := by
  induction a with
  | nil => simp [val]
  | cons d r ih =>
    rw [List.cons_append, val, val, ih, List.length_cons, Int.pow_succ]
    grind
theorem val_snoc (a : List Int) (x : Int) : val (a ++ [x]) = val a + 65536 ^ a.length * x := by
  rw [val_app]
  simp [val]
theorem take_val (l : List Int) (k : Nat) (h : k < l.length) : val (l.take (k + 1)) = val (l.take k) + 65536 ^ k * rd l (k : Int) := by
  rw [List.take_succ_eq_append_getElem h, val_snoc, List.length_take, Nat.min_eq_left (Nat.le_of_lt h), rd_in h]
theorem take_far (l : List Int) (k : Nat) (h : l.length ≤ k) : val (l.take (k + 1)) = val (l.take k) := by
  rw [List.take_of_length_le (by omega), List.take_of_length_le h]
theorem take_any (l : List Int) (k : Nat) : val (l.take (k + 1)) = val (l.take k) + 65536 ^ k * rd l (k : Int) := by
  rcases Nat.lt_or_ge k l.length with h | h
  · exact take_val l k h
  · rw [take_far l k h, rd_out h, Int.mul_zero, Int.add_zero]
/-- One round of the inner loop of Mul. -/
theorem mul_round (row lb : List Int) (i k : Nat) (p c : Int) (hl : row.length = i + k) (h : val (row ++ [c]) = 65536 ^ i * (p * val (lb.take k))) :
    val ((row ++ [(p * rd lb (k : Int) + c) % 65536]) ++ [(p * rd lb (k : Int) + c) / 65536]) = 65536 ^ i * (p * val (lb.take (k + 1))) := by
  rw [List.append_assoc, List.singleton_append, val_two]
  rw [show (p * rd lb (k : Int) + c) % 65536 + 65536 * ((p * rd lb (k : Int) + c) / 65536) = p * rd lb (k : Int) + c by omega]
  rw [val_snoc, hl, Int.pow_add] at *
  rw [take_any]
  grind
theorem mul_zeros (k : Nat) (lb : List Int) (p : Int) : val (List.replicate k 0 ++ [0]) = 65536 ^ k * (p * val (lb.take 0)) := by
  have h : ∀ k : Nat, val (List.replicate k 0) = 0 := by
    intro k
    induction k with
    | zero => rfl
    | succ k ih => rw [List.replicate_succ, val, ih]; rfl
  rw [val_snoc0, h]
  simp [val]
theorem mul_in {p q c : Int} (hp : 0 ≤ p ∧ p < 65536) (hq : 0 ≤ q ∧ q < 65536) (hc : 0 ≤ c ∧ c < 65536) : 0 ≤ p * q ∧ p * q + c < 4294967296 := by
  have h0 := Int.mul_nonneg hp.1 hq.1
  have h1 : p * q ≤ 65535 * q := Int.mul_le_mul_of_nonneg_right (by omega) hq.1
  generalize p * q = X at h0 h1 ⊢
  omega
theorem meas {i k : Nat} (h : k < i) : i - (k + 1) < i - k := by omega
theorem ne_of {v u : Value} {N : Nat} (hv : ∃ b, v.ownBlock = some b ∧ N ≤ b) (hu : ∀ k, u.ownBlock = some k → k < N) : v.ownBlock ≠ u.ownBlock := by
  intro e
  obtain ⟨b, h1, h2⟩ := hv
  rw [h1] at e
  have := hu b e.symm
  omega
theorem at_of {v v1 : Value} {N M : Nat} (h : v1.ownBlock = v.ownBlock ∨ ∃ b, v1.ownBlock = some b ∧ M ≤ b) (hv : ∃ b, v.ownBlock = some b ∧ N ≤ b) (hm : N ≤ M) : ∃ b, v1.ownBlock = some b ∧ N ≤ b := by
  rcases h with h | ⟨b, h1, h2⟩
  · rw [h]
    exact hv
  · exact ⟨b, h1, Nat.le_trans hm h2⟩
theorem sum_g (a b : List Int) (m : Nat) (hd : Dg a) (he : Dg b) (ha : a.length ≤ m) (hb : b.length ≤ m) (hm : m ≤ 1000) :
    ∃ s, aneroidref01_sum.f (2 * m + 4) a b = some s ∧ Dg s ∧ s.length ≤ m + 1 ∧ val s = val a + val b := by
  obtain ⟨s, e, hs, hl, hv⟩ := sum_run a b hd he m 0 [] 0 (by omega) (by omega) rfl (by omega) (by omega) Dg.nil
  exact ⟨s, e, hs, hl, by rw [hv]; simp⟩

set_option maxRecDepth 100000 in
set_option maxHeartbeats 4000000 in
theorem mul_any (w : World) (va vb : Value) (a b : Int) (hva : IsBig w va a) (hvb : IsBig w vb b) (ha : Small a) (hb : Small b) (ha0 : 0 ≤ a) (hb0 : 0 ≤ b) :
    Calls Tryd.prog 23 #[va, vb] w fun e w' => ∃ v, e = .returned v ∧ IsBig w' v (a * b) ∧ Below w.heap.size w w' := by
  obtain ⟨na, la, A, ca, rfl, hCa, hca, hda, hna, hza, hpa⟩ := hva
  obtain ⟨nb, lb, B, cb, rfl, hCb, hcb, hdb, hnb, hzb, hpb⟩ := hvb
  have hla : la.length ≤ 5 := big_len hda hna (by unfold Small at ha; cases na <;> simp at hza <;> omega)
  have hlb : lb.length ≤ 5 := big_len hdb hnb (by unfold Small at hb; cases nb <;> simp at hzb <;> omega)
  obtain rfl : na = false := by
    cases na with
    | false => rfl
    | true => have := hpa rfl; simp at hza; omega
  obtain rfl : nb = false := by
    cases nb with
    | false => rfl
    | true => have := hpb rfl; simp at hzb; omega
  have HCA := Aside0.mk hCa
  have HDA := Aside0.mk hda
  have HLA := Aside0.mk hca
  have HCB := Aside0.mk hCb
  have HDB := Aside0.mk hdb
  have HLB := Aside0.mk hcb
  have HZ := Aside0.mk (show val la * val lb = a * b by rw [hza, hzb]; simp)
  have HL5 := Aside0.mk hla
  have HM5 := Aside0.mk hlb
  clear hCa hca hda hna hza hpa hCb hcb hdb hnb hzb hpb ha hb ha0 hb0 hla hlb
  go_enter Tryd.func23, Tryd.ntmps23
  go_upto_region 1 with fail
  obtain ⟨x2, x3, x4, hB⟩ := blocks3 w #[.bool false, .slice A la.length ca] #[.bool false, .slice B lb.length cb] #[.bool false, .slice none 0 0] 55 55 55
  generalize ((w.alloc (.cells #[.bool false, .slice A la.length ca] 55)).alloc (.cells #[.bool false, .slice B lb.length cb] 55)).alloc (.cells #[.bool false, .slice none 0 0] 55) = w1 at x2 x3 x4 hB ⊢
  obtain ⟨b2, h2⟩ : ∃ b, b = w.heap.size := ⟨_, rfl⟩
  obtain ⟨b3, h3⟩ : ∃ b, b = w.heap.size + 1 := ⟨_, rfl⟩
  obtain ⟨b4, h4⟩ : ∃ b, b = w.heap.size + 1 + 1 := ⟨_, rfl⟩
  have g4 : w.heap.size ≤ b4 := by omega
  have d24 : b2 ≠ b4 := by omega
  have d34 : b3 ≠ b4 := by omega
  rw [← h4, ← h3, ← h2]
  rw [← h4] at x4
  rw [← h3] at x3
  rw [← h2] at x2
  have HX2 := Aside0.mk x2
  have HX3 := Aside0.mk x3
  have HX4 := Aside0.mk x4
  have HB := Aside0.mk hB
  clear x2 x3 x4 hB h2 h3 h4
  go_wp2_with (first
    | ((with_reducible refine gate_dst (N := 12) rfl ?_); refine Kd.R_lit (Kd.int .u64) (w0 := w) w.heap.size 61 rfl (N := 12) rfl (xs := ([] : List Int)) (inner := []) (ok := fun _ => True) (okp := fun _ => True) ?hr (Reps.none _ _) (fun _ hk => hk) trivial HB.out HB.out.size (by simp) ?_; (case hr => first | (go_simp; done) | (go_simp; rfl)); intro v12 w2 ho hb hg hat; have HO := Aside0.mk ho; replace HX2 := Aside0.mk (blk_grown HX2.out hg (by simp)); replace HX3 := Aside0.mk (blk_grown HX3.out hg (by simp)); replace HX4 := Aside0.mk (blk_grown HX4.out hg (by simp)); replace HB := Aside0.mk hb; clear ho hb hg hat))
  go_loopw [5, 6] (fun v5 v6 wr => ∃ (i : Nat) (out : List Int), i ≤ la.length ∧ v6 = .int .i64 i ∧ Aside0 (out.length ≤ i + lb.length + 2) ∧ Aside0 (Dg out) ∧ Aside0 (val out = val (la.take i) * val lb) ∧ Aside0 (Kd.R (Kd.int .u64) 61 wr w.heap.size (fun _ => True) v5 out) ∧ Aside0 (wr.heap[b2]? = some (.cells #[.bool false, .slice A la.length ca] 55 (0, 0))) ∧ Aside0 (wr.heap[b3]? = some (.cells #[.bool false, .slice B lb.length cb] 55 (0, 0))) ∧ Aside0 (wr.heap[b4]? = some (.cells #[.bool false, .slice none 0 0] 55 (0, 0))) ∧ Aside0 (Below w.heap.size w wr)) (fun _ v6 _ => la.length - (intOf v6).toNat)
  case atStart => exact ⟨0, [], Nat.zero_le _, rfl, ⟨by simp⟩, ⟨Dg.nil⟩, ⟨by simp [val]⟩, HO, HX2, HX3, HX4, HB⟩
  case round =>
    clear HO HX2 HX3 HX4 HB
    obtain ⟨i, out, hi, rfl, HLO, HDO, HVO, HO, HX2, HX3, HX4, HB⟩ := hrel
    have x21 : wr.cell? ⟨b2, 1, none⟩ = some (.slice A la.length ca) := (blk_cell HX2.out 1).trans rfl
    by_cases hlt : i < la.length
    · have q0 : decide ((i : Int) < (la.length : Int)) = true := decide_eq_true (by omega)
      have HN := Aside0.mk (Kd.R_lt HO.out)
      obtain ⟨NB, hNB⟩ : ∃ n, n = wr.heap.size := ⟨_, rfl⟩
      rw [← hNB] at HN
      go_wp2_with (first
        | ((with_reducible refine gate_dst (N := 20) rfl ?_); refine Kd.R_lit (Kd.int .u64) (w0 := w) w.heap.size 61 rfl (N := 20) rfl (xs := ([] : List Int)) (inner := []) (ok := fun _ => True) (okp := fun _ => True) ?hr (Reps.none _ _) (fun _ hk => hk) trivial HB.out HB.out.size (by simp) ?_; (case hr => first | (go_simp; done) | (go_simp; rfl)); intro v20 w3 ho hb hg hat; have HR := Aside0.mk ho; replace HO := Aside0.mk (Kd.R_grown HO.out hg (fun k _ => by simp)); replace HX2 := Aside0.mk (blk_grown HX2.out hg (by simp)); replace HX3 := Aside0.mk (blk_grown HX3.out hg (by simp)); replace HX4 := Aside0.mk (blk_grown HX4.out hg (by simp)); replace HB := Aside0.mk hb; rw [← hNB] at hat; have HT := Aside0.mk hat; have HB3 := Aside0.mk (show NB ≤ w3.heap.size by rw [hNB]; exact hg.size); clear ho hb hg hat))
      have HNB := Aside0.mk (Nat.le_refl NB)
      clear hNB x21
      go_loopw [7, 8] (fun v7 v8 wr => ∃ k : Nat, k ≤ i ∧ v8 = .int .i64 k ∧ Aside0 (Kd.R (Kd.int .u64) 61 wr w.heap.size (fun _ => True) v7 (List.replicate k 0)) ∧ Aside0 (∃ b, v7.ownBlock = some b ∧ NB ≤ b) ∧ Aside0 (NB ≤ wr.heap.size) ∧ Aside0 (Kd.R (Kd.int .u64) 61 wr w.heap.size (fun _ => True) u5 out) ∧ Aside0 (wr.heap[b2]? = some (.cells #[.bool false, .slice A la.length ca] 55 (0, 0))) ∧ Aside0 (wr.heap[b3]? = some (.cells #[.bool false, .slice B lb.length cb] 55 (0, 0))) ∧ Aside0 (wr.heap[b4]? = some (.cells #[.bool false, .slice none 0 0] 55 (0, 0))) ∧ Aside0 (Below w.heap.size w wr)) (fun _ v8 _ => i - (intOf v8).toNat)
      case atStart => exact ⟨0, Nat.zero_le _, rfl, HR, HT, HB3, HO, HX2, HX3, HX4, HB⟩
      case round =>
        clear HR HT HB3 HO HX2 HX3 HX4 HB
        obtain ⟨k, hk, rfl, HR, HT, HB3, HO, HX2, HX3, HX4, HB⟩ := hrel
        by_cases hki : k < i
        · have q1 : decide ((k : Int) < (i : Int)) = true := decide_eq_true (by omega)
          have q2 : wrap64 ((k : Int) + 1) = ((k + 1 : Nat) : Int) := cast_succ k (by have := HL5.out; omega)
          have LIM := Aside0.mk (lim8 (List.replicate k (0 : Int)).length (by have := HL5.out; simp; omega))
          go_wp2_with (first
            | ((with_reducible refine gate_builtin (b := .append) (xs := #[.tmp 26, .tmp 27]) rfl ?_); at_builtin; refine Kd.R_append (Kd.int .u64) (w0 := w) w.heap.size rfl (.tmp 26) (.tmp 27) 53 61 (.int .u64 0) 8 rfl Tryd.underlying53 info61 rfl (by decide) (by decide) u7 (List.replicate k 0) (0) [.int .u64 (0)] (fun _ => True) (fun _ => False) rfl rfl rfl (fun _ hk => hk.elim) (fun _ _ => trivial) HR.out HB.out HB.out.size LIM.out ?_; intro v28 w12 ho hb hg hat; have HO2 := Aside0.mk (Kd.R_grown1 HO.out rfl hg (ne_of HT.out HN.out)); have HX22 := Aside0.mk (blk_grown HX2.out hg (Kd.R_ne HR.out HX2.out (by decide))); have HX32 := Aside0.mk (blk_grown HX3.out hg (Kd.R_ne HR.out HX3.out (by decide))); have HX42 := Aside0.mk (blk_grown HX4.out hg (Kd.R_ne HR.out HX4.out (by decide))); have HR2 := Aside0.mk ho; have HB2 := Aside0.mk hb; have HT2 := Aside0.mk (at_of hat HT.out (Nat.le_trans HNB.out HB3.out)); have HB32 := Aside0.mk (Nat.le_trans HB3.out hg.size); clear ho hb hg hat))
          go_roundw
          case rel => exact ⟨k + 1, hki, by rw [q2], ⟨by rw [List.replicate_succ']; exact HR2.out⟩, HT2, HB32, HO2, HX22, HX32, HX42, HB2⟩
          case measure =>
            rw [q2]
            simp only [intOf, Int.toNat_natCast]
            exact meas hki
        · have hk2 : k = i := by omega
          subst hk2
          have q1 : decide ((k : Int) < (k : Int)) = false := decide_eq_false (by omega)
          have HVR0 := Aside0.mk (mul_zeros k lb (rd la (k : Int)))
          have HLR0 := Aside0.mk (show (List.replicate k (0 : Int)).length = k + 0 by simp)
          have HDR0 : Aside0 (Dg (List.replicate k (0 : Int))) := ⟨fun x hx => by have := List.eq_of_mem_replicate hx; subst this; decide⟩
          go_wp2_with fail
          go_loopw [7, 9, 10] (fun v7 v9 v10 wr => ∃ (j : Nat) (c : Int) (row : List Int), j ≤ lb.length + 1 ∧ v10 = .int .i64 j ∧ v9 = .int .u64 c ∧ (0 ≤ c ∧ c < 65536) ∧ (j = lb.length + 1 → c = 0) ∧ Aside0 (Dg row) ∧ Aside0 (row.length = k + j) ∧ Aside0 (val (row ++ [c]) = 65536 ^ k * (rd la (k : Int) * val (lb.take j))) ∧
            Aside0 (Kd.R (Kd.int .u64) 61 wr w.heap.size (fun _ => True) v7 row) ∧ Aside0 (∃ b, v7.ownBlock = some b ∧ NB ≤ b) ∧ Aside0 (NB ≤ wr.heap.size) ∧ Aside0 (Kd.R (Kd.int .u64) 61 wr w.heap.size (fun _ => True) u5 out) ∧ Aside0 (wr.heap[b2]? = some (.cells #[.bool false, .slice A la.length ca] 55 (0, 0))) ∧ Aside0 (wr.heap[b3]? = some (.cells #[.bool false, .slice B lb.length cb] 55 (0, 0))) ∧ Aside0 (wr.heap[b4]? = some (.cells #[.bool false, .slice none 0 0] 55 (0, 0))) ∧ Aside0 (Below w.heap.size w wr)) (fun _ _ v10 _ => lb.length + 1 - (intOf v10).toNat)
          case atStart => exact ⟨0, 0, List.replicate k 0, Nat.zero_le _, rfl, rfl, by decide, fun h => rfl, HDR0, HLR0, HVR0, HR, HT, HB3, HO, HX2, HX3, HX4, HB⟩
          case round =>
            clear HR HT HB3 HO HX2 HX3 HX4 HB HVR0 HLR0 HDR0 q1
            obtain ⟨j, c, row, hj, rfl, rfl, hc, hj0, HDR, HLR, HVR, HR, HT, HB3, HO, HX2, HX3, HX4, HB⟩ := hrel
            have x31 : wr.cell? ⟨b3, 1, none⟩ = some (.slice B lb.length cb) := (blk_cell HX3.out 1).trans rfl
            by_cases hgo : j < lb.length ∨ 0 < c
            · have hk5 : k + j ≤ 1000 := by have := HL5.out; have := HM5.out; omega
              have LIM := Aside0.mk (lim8 row.length (by rw [HLR.out]; exact hk5))
              have hj7 : j < 1000000 := by omega
              clear hk5
              have hj5 : j ≤ lb.length := by
                rcases Nat.lt_or_ge lb.length j with h | h
                · have := hj0 (by omega)
                  omega
                · exact h
              have q3 : decide ((j : Int) < (lb.length : Int)) = false → decide (0 < c) = true := fun h => by
                have := of_decide_eq_false h
                exact decide_eq_true (by omega)
              have p0 : (0 : Int) ≤ (k : Int) := Int.natCast_nonneg _
              have p1 : (k : Int) < (la.length : Int) := by omega
              obtain ⟨ad, rfl, hx⟩ := Kd.at_int HCA.out (k : Int) p0 p1
              rw [Int.toNat_natCast] at hx
              obtain ⟨p, hp⟩ : ∃ p, p = rd la (k : Int) := ⟨_, rfl⟩
              obtain ⟨q, hq⟩ : ∃ q, q = rd lb (j : Int) := ⟨_, rfl⟩
              have hpr := HDA.out.rd k
              have hqr := HDB.out.rd j
              have hq0 : j = lb.length → q = 0 := fun h => by rw [hq]; exact rd_out (by omega)
              have hdig := digit_f lb j
              rw [← hp] at hx hpr
              rw [← hq] at hqr hdig
              have hin := mul_in hpr hqr hc
              have m1 : IntKind.u64.wrap (p * q) = p * q := u64 hin.1 (by omega)
              obtain ⟨X, hX⟩ : ∃ X, X = p * q + c := ⟨_, rfl⟩
              have m2 : IntKind.u64.wrap (p * q + c) = X := by rw [hX]; exact u64 (by omega) (by omega)
              have hX0 : 0 ≤ X ∧ X < 4294967296 := by rw [hX]; omega
              have hXz : j + 1 = lb.length + 1 → X / 65536 = 0 := fun h => by
                rw [hX, hq0 (by omega), Int.mul_zero, Int.zero_add]
                omega
              have m3 : Int.tmod X 65536 = X % 65536 := Int.tmod_eq_emod_of_nonneg hX0.1
              have m4 : Int.tdiv X 65536 = X / 65536 := Int.tdiv_eq_ediv_of_nonneg hX0.1
              have m5 : IntKind.u64.wrap (X / 65536) = X / 65536 := u64 (by omega) (by omega)
              have hXX : 0 ≤ X / 65536 ∧ X / 65536 < 65536 := by omega
              have hXm : 0 ≤ X % 65536 ∧ X % 65536 < 65536 := by omega
              have q4 : wrap64 ((j : Int) + 1) = ((j + 1 : Nat) : Int) := cast_succ j hj7
              have HDR2 := Aside0.mk (HDR.out.append (Dg.one hXm.1 hXm.2))
              have HLR2 := Aside0.mk (show (row ++ [X % 65536]).length = k + (j + 1) by rw [List.length_append, HLR.out]; rfl)
              have HVR2 : Aside0 (val ((row ++ [X % 65536]) ++ [X / 65536]) = 65536 ^ k * (p * val (lb.take (j + 1)))) := ⟨by
                have h := mul_round row lb k j (rd la (k : Int)) c HLR.out HVR.out
                rw [← hp, ← hq, ← hX] at h
                exact h⟩
              have HXZ := Aside0.mk hXz
              have HXX := Aside0.mk hXX
              have HE := Aside0.mk hx
              have HDI := Aside0.mk hdig
              have hj6 : j + 1 ≤ lb.length + 1 := Nat.succ_le_succ hj5
              have hjm : j < lb.length + 1 := Nat.lt_succ_of_le hj5
              have PP := Aside0.mk hp
              clear hX hq0 hdig hin hX0 hXz hXX hXm hx hq HVR HDR hpr hqr hgo hj0 hp
              have p2 := eq_true p0
              have p3 := eq_true p1
              by_cases hjl : j < lb.length
              · have q1 : decide ((j : Int) < (lb.length : Int)) = true := decide_eq_true (Int.ofNat_lt.2 hjl)
                clear q3
                go_upto_region 14 with fail
                refine start_ (n := 13) (S := fun w' => w'.cell? ⟨b2, 1, none⟩ = some (.slice (some ad) la.length ca) ∧ w'.cell? ⟨b3, 1, none⟩ = some (.slice B lb.length cb) ∧ w'.cell? (ad.add k) = some (.int .u64 p)) (ds := []) #[false, false, false, false, false, false, false, false, false, false, false, false, false] (by kernel_rfl) rfl rfl ⟨(blk_cell HX2.out 1).trans rfl, (blk_cell HX3.out 1).trans rfl, pw_cell_below HB.out HE.out⟩ (fun hHeld => ?_)
                replace HX2 := Aside0.mk (blk_drew HX2.out)
                replace HX3 := Aside0.mk (blk_drew HX3.out)
                replace HX4 := Aside0.mk (blk_drew HX4.out)
                replace HB := Aside0.mk (below_drew HB.out)
                replace HR := Aside0.mk (Kd.R_drew HR.out)
                replace HO := Aside0.mk (Kd.R_drew HO.out)
                replace HB3 := Aside0.mk (show NB ≤ wr.drew.heap.size from HB3.out)
                generalize wr.drew = Wd at HX2 HX3 HX4 HB HR HO HB3 hHeld ⊢
                refine pure_ (i := 0) (N := (some 40)) (v := ?_) (a' := ?_) #[true, false, false, false, false, false, false, false, false, false, false, false, false] rfl rfl (by kernel_rfl) (fun _ _ _ h => h) (Or.inl ⟨by rfl, ?_⟩) ?_ ?_
                rotate_left
                · intro w'
                  go_simp
                  with_reducible rfl
                rotate_left
                · simp only [Act.put, List.setIfInBounds_toArray, List.set_cons_zero, List.set_cons_succ, i64_w, i32_w]
                  rfl
                refine take_ (i := 1) (N := (some 41)) (v := ?_) (a' := ?_) #[true, true, false, false, false, false, false, false, false, false, false, false, false] rfl rfl (by kernel_rfl) (fun _ _ _ h => h) (Or.inl ⟨by rfl, ?_⟩) hHeld ?_ ?_
                rotate_left
                · rintro w' ⟨s0, s1, s2⟩
                  go_simp
                  with_reducible rfl
                rotate_left
                · simp only [Act.put, List.setIfInBounds_toArray, List.set_cons_zero, List.set_cons_succ, i64_w, i32_w]
                  rfl
                refine pure_ (i := 2) (N := (some 42)) (v := ?_) (a' := ?_) #[true, true, true, false, false, false, false, false, false, false, false, false, false] rfl rfl (by kernel_rfl) (fun _ _ _ h => h) (Or.inl ⟨by rfl, ?_⟩) ?_ ?_
                rotate_left
                · intro w'
                  go_simp
                  with_reducible rfl
                rotate_left
                · simp only [Act.put, List.setIfInBounds_toArray, List.set_cons_zero, List.set_cons_succ, i64_w, i32_w]
                  rfl
                refine pure_ (i := 3) (N := (some 43)) (v := ?_) (a' := ?_) #[true, true, true, true, false, false, false, false, false, false, false, false, false] rfl rfl (by kernel_rfl) (fun _ _ _ h => h) (Or.inl ⟨by rfl, ?_⟩) ?_ ?_
                rotate_left
                · intro w'
                  go_simp
                  with_reducible rfl
                rotate_left
                · simp only [Act.put, List.setIfInBounds_toArray, List.set_cons_zero, List.set_cons_succ, i64_w, i32_w]
                  rfl
                refine take_ (i := 4) (N := (some 44)) (v := ?_) (a' := ?_) #[true, true, true, true, true, false, false, false, false, false, false, false, false] rfl rfl (by kernel_rfl) (fun _ _ _ h => h) (Or.inl ⟨by rfl, ?_⟩) hHeld ?_ ?_
                rotate_left
                · rintro w' ⟨s0, s1, s2⟩
                  go_simp
                  with_reducible rfl
                rotate_left
                · simp only [Act.put, List.setIfInBounds_toArray, List.set_cons_zero, List.set_cons_succ, i64_w, i32_w]
                  rfl
                refine pure_ (i := 5) (N := (some 45)) (v := ?_) (a' := ?_) #[true, true, true, true, true, true, false, false, false, false, false, false, false] rfl rfl (by kernel_rfl) (fun _ _ _ h => h) (Or.inl ⟨by rfl, ?_⟩) ?_ ?_
                rotate_left
                · intro w'
                  go_simp
                  with_reducible rfl
                rotate_left
                · simp only [Act.put, List.setIfInBounds_toArray, List.set_cons_zero, List.set_cons_succ, i64_w, i32_w]
                  rfl
                refine take_ (i := 6) (N := (some 46)) (v := ?_) (a' := ?_) #[true, true, true, true, true, true, true, false, false, false, false, false, false] rfl rfl (by kernel_rfl) (fun _ _ _ h => h) (Or.inl ⟨by rfl, ?_⟩) hHeld ?_ ?_
                rotate_left
                · rintro w' ⟨s0, s1, s2⟩
                  go_simp
                  with_reducible rfl
                rotate_left
                · simp only [Act.put, List.setIfInBounds_toArray, List.set_cons_zero, List.set_cons_succ, i64_w, i32_w]
                  rfl
                refine pure_ (i := 7) (N := (some 47)) (v := ?_) (a' := ?_) #[true, true, true, true, true, true, true, true, false, false, false, false, false] rfl rfl (by kernel_rfl) (fun _ _ _ h => h) (Or.inl ⟨by rfl, ?_⟩) ?_ ?_
                rotate_left
                · intro w'
                  go_simp
                  with_reducible rfl
                rotate_left
                · simp only [Act.put, List.setIfInBounds_toArray, List.set_cons_zero, List.set_cons_succ, i64_w, i32_w]
                  rfl
                refine pure_ (i := 10) (N := (some 50)) (v := ?_) (a' := ?_) #[true, true, true, true, true, true, true, true, false, false, true, false, false] rfl rfl (by kernel_rfl) (fun _ _ _ h => h) (Or.inl ⟨by rfl, ?_⟩) ?_ ?_
                rotate_left
                · intro w'
                  go_simp
                  with_reducible rfl
                rotate_left
                · simp only [Act.put, List.setIfInBounds_toArray, List.set_cons_zero, List.set_cons_succ, i64_w, i32_w]
                  rfl
                refine one_ (i := 8) (N := (some 48)) #[true, true, true, true, true, true, true, true, true, false, true, false, false] rfl rfl (by kernel_rfl) (by decide) (fun K hK => ?_)
                refine goes_ Tryd.func29 (by kernel_rfl) rfl #[.slice B lb.length cb, .int .i64 j] (by rfl) rfl rfl (by (try simp only [List.map_toArray, List.map_cons, List.map_nil]); first | done | rfl) ?_
                refine (aneroidref01_digit.calls B cb lb (j : Int) q Wd (Kd.C_below HCB.out HB.out) HLB.out HDI.out).mono ?_
                rintro e We ⟨rfl, hd⟩
                have hb := hd.below
                clear hd
                replace HX2 := Aside0.mk (blk_below HX2.out hb)
                replace HX3 := Aside0.mk (blk_below HX3.out hb)
                replace HX4 := Aside0.mk (blk_below HX4.out hb)
                replace HB := Aside0.mk (below_step HB.out hb)
                replace HR := Aside0.mk (Kd.R_below HR.out hb)
                replace HO := Aside0.mk (Kd.R_below HO.out hb)
                replace HB3 := Aside0.mk (Nat.le_trans HB3.out hb.size)
                clear hb hHeld
                refine ⟨_, rfl, ?_⟩
                refine hK.out _ _ ⟨(blk_cell HX2.out 1).trans rfl, (blk_cell HX3.out 1).trans rfl, pw_cell_below HB.out HE.out⟩ (fun hHeld => ?_)
                clear hK K
                refine norm_ (a' := ?_) ?_ ?_
                rotate_left
                · show Act.put _ (some 48) _ = _
                  simp only [Act.put, List.setIfInBounds_toArray, List.set_cons_zero, List.set_cons_succ, i64_w, i32_w]
                  rfl
                refine pure_ (i := 9) (N := (some 49)) (v := ?_) (a' := ?_) #[true, true, true, true, true, true, true, true, true, true, true, false, false] rfl rfl (by kernel_rfl) (fun _ _ _ h => h) (Or.inl ⟨by rfl, ?_⟩) ?_ ?_
                rotate_left
                · intro w'
                  go_simp
                  with_reducible rfl
                rotate_left
                · simp only [Act.put, List.setIfInBounds_toArray, List.set_cons_zero, List.set_cons_succ, i64_w, i32_w]
                  rfl
                refine pure_ (i := 11) (N := (some 51)) (v := ?_) (a' := ?_) #[true, true, true, true, true, true, true, true, true, true, true, true, false] rfl rfl (by kernel_rfl) (fun _ _ _ h => h) (Or.inl ⟨by rfl, ?_⟩) ?_ ?_
                rotate_left
                · intro w'
                  go_simp
                  with_reducible rfl
                rotate_left
                · simp only [Act.put, List.setIfInBounds_toArray, List.set_cons_zero, List.set_cons_succ, i64_w, i32_w]
                  rfl
                refine pure_ (i := 12) (N := (some 11)) (v := ?_) (a' := ?_) #[true, true, true, true, true, true, true, true, true, true, true, true, true] rfl rfl (by kernel_rfl) (fun _ _ _ h => h) (Or.inl ⟨by rfl, ?_⟩) ?_ ?_
                rotate_left
                · intro w'
                  go_simp
                  with_reducible rfl
                rotate_left
                · simp only [Act.put, List.setIfInBounds_toArray, List.set_cons_zero, List.set_cons_succ, i64_w, i32_w]
                  rfl
                refine done_ (by kernel_rfl) ?_
                clear hHeld
                go_upto_region 13 with (first
                  | ((with_reducible refine gate_builtin (b := .append) (xs := #[.tmp 52, .tmp 55]) rfl ?_); at_builtin; refine Kd.R_append (Kd.int .u64) (w0 := w) w.heap.size rfl (.tmp 52) (.tmp 55) 53 61 (.int .u64 0) 8 rfl Tryd.underlying53 info61 rfl (by decide) (by decide) u7 row (X % 65536) [.int .u64 (X % 65536)] (fun _ => True) (fun _ => False) rfl rfl rfl (fun _ hk => hk.elim) (fun _ _ => trivial) HR.out HB.out HB.out.size LIM.out ?_; intro v56 w12 ho hb hg hat; have HO2 := Aside0.mk (Kd.R_grown1 HO.out rfl hg (ne_of HT.out HN.out)); have HX22 := Aside0.mk (blk_grown HX2.out hg (Kd.R_ne HR.out HX2.out (by decide))); have HX32 := Aside0.mk (blk_grown HX3.out hg (Kd.R_ne HR.out HX3.out (by decide))); have HX42 := Aside0.mk (blk_grown HX4.out hg (Kd.R_ne HR.out HX4.out (by decide))); have HR2 := Aside0.mk ho; have HB2 := Aside0.mk hb; have HT2 := Aside0.mk (at_of hat HT.out (Nat.le_trans HNB.out HB3.out)); have HB32 := Aside0.mk (Nat.le_trans HB3.out hg.size); clear ho hb hg hat))
                clear m1 m2 m3 m4 m5
                go_wp2_with fail
                go_roundw
                case rel => exact ⟨j + 1, X / 65536, row ++ [X % 65536], hj6, rfl, rfl, HXX.out, HXZ.out, HDR2, HLR2, by rw [← PP.out]; exact HVR2, HR2, HT2, HB32, HO2, HX22, HX32, HX42, HB2⟩
                case measure =>
                  show lb.length + 1 - (((j + 1 : Nat) : Int)).toNat < lb.length + 1 - ((j : Nat) : Int).toNat
                  simp only [Int.toNat_natCast]
                  exact meas hjm
              · have q1 : decide ((j : Int) < (lb.length : Int)) = false := decide_eq_false (fun h => hjl (Int.ofNat_lt.1 h))
                replace q3 := q3 q1
                go_upto_region 14 with fail
                refine start_ (n := 13) (S := fun w' => w'.cell? ⟨b2, 1, none⟩ = some (.slice (some ad) la.length ca) ∧ w'.cell? ⟨b3, 1, none⟩ = some (.slice B lb.length cb) ∧ w'.cell? (ad.add k) = some (.int .u64 p)) (ds := []) #[false, false, false, false, false, false, false, false, false, false, false, false, false] (by kernel_rfl) rfl rfl ⟨(blk_cell HX2.out 1).trans rfl, (blk_cell HX3.out 1).trans rfl, pw_cell_below HB.out HE.out⟩ (fun hHeld => ?_)
                replace HX2 := Aside0.mk (blk_drew HX2.out)
                replace HX3 := Aside0.mk (blk_drew HX3.out)
                replace HX4 := Aside0.mk (blk_drew HX4.out)
                replace HB := Aside0.mk (below_drew HB.out)
                replace HR := Aside0.mk (Kd.R_drew HR.out)
                replace HO := Aside0.mk (Kd.R_drew HO.out)
                replace HB3 := Aside0.mk (show NB ≤ wr.drew.heap.size from HB3.out)
                generalize wr.drew = Wd at HX2 HX3 HX4 HB HR HO HB3 hHeld ⊢
                refine pure_ (i := 0) (N := (some 40)) (v := ?_) (a' := ?_) #[true, false, false, false, false, false, false, false, false, false, false, false, false] rfl rfl (by kernel_rfl) (fun _ _ _ h => h) (Or.inl ⟨by rfl, ?_⟩) ?_ ?_
                rotate_left
                · intro w'
                  go_simp
                  with_reducible rfl
                rotate_left
                · simp only [Act.put, List.setIfInBounds_toArray, List.set_cons_zero, List.set_cons_succ, i64_w, i32_w]
                  rfl
                refine take_ (i := 1) (N := (some 41)) (v := ?_) (a' := ?_) #[true, true, false, false, false, false, false, false, false, false, false, false, false] rfl rfl (by kernel_rfl) (fun _ _ _ h => h) (Or.inl ⟨by rfl, ?_⟩) hHeld ?_ ?_
                rotate_left
                · rintro w' ⟨s0, s1, s2⟩
                  go_simp
                  with_reducible rfl
                rotate_left
                · simp only [Act.put, List.setIfInBounds_toArray, List.set_cons_zero, List.set_cons_succ, i64_w, i32_w]
                  rfl
                refine pure_ (i := 2) (N := (some 42)) (v := ?_) (a' := ?_) #[true, true, true, false, false, false, false, false, false, false, false, false, false] rfl rfl (by kernel_rfl) (fun _ _ _ h => h) (Or.inl ⟨by rfl, ?_⟩) ?_ ?_
                rotate_left
                · intro w'
                  go_simp
                  with_reducible rfl
                rotate_left
                · simp only [Act.put, List.setIfInBounds_toArray, List.set_cons_zero, List.set_cons_succ, i64_w, i32_w]
                  rfl
                refine pure_ (i := 3) (N := (some 43)) (v := ?_) (a' := ?_) #[true, true, true, true, false, false, false, false, false, false, false, false, false] rfl rfl (by kernel_rfl) (fun _ _ _ h => h) (Or.inl ⟨by rfl, ?_⟩) ?_ ?_
                rotate_left
                · intro w'
                  go_simp
                  with_reducible rfl
                rotate_left
                · simp only [Act.put, List.setIfInBounds_toArray, List.set_cons_zero, List.set_cons_succ, i64_w, i32_w]
                  rfl
                refine take_ (i := 4) (N := (some 44)) (v := ?_) (a' := ?_) #[true, true, true, true, true, false, false, false, false, false, false, false, false] rfl rfl (by kernel_rfl) (fun _ _ _ h => h) (Or.inl ⟨by rfl, ?_⟩) hHeld ?_ ?_
                rotate_left
                · rintro w' ⟨s0, s1, s2⟩
                  go_simp
                  with_reducible rfl
                rotate_left
                · simp only [Act.put, List.setIfInBounds_toArray, List.set_cons_zero, List.set_cons_succ, i64_w, i32_w]
                  rfl
                refine pure_ (i := 5) (N := (some 45)) (v := ?_) (a' := ?_) #[true, true, true, true, true, true, false, false, false, false, false, false, false] rfl rfl (by kernel_rfl) (fun _ _ _ h => h) (Or.inl ⟨by rfl, ?_⟩) ?_ ?_
                rotate_left
                · intro w'
                  go_simp
                  with_reducible rfl
                rotate_left
                · simp only [Act.put, List.setIfInBounds_toArray, List.set_cons_zero, List.set_cons_succ, i64_w, i32_w]
                  rfl
                refine take_ (i := 6) (N := (some 46)) (v := ?_) (a' := ?_) #[true, true, true, true, true, true, true, false, false, false, false, false, false] rfl rfl (by kernel_rfl) (fun _ _ _ h => h) (Or.inl ⟨by rfl, ?_⟩) hHeld ?_ ?_
                rotate_left
                · rintro w' ⟨s0, s1, s2⟩
                  go_simp
                  with_reducible rfl
                rotate_left
                · simp only [Act.put, List.setIfInBounds_toArray, List.set_cons_zero, List.set_cons_succ, i64_w, i32_w]
                  rfl
                refine pure_ (i := 7) (N := (some 47)) (v := ?_) (a' := ?_) #[true, true, true, true, true, true, true, true, false, false, false, false, false] rfl rfl (by kernel_rfl) (fun _ _ _ h => h) (Or.inl ⟨by rfl, ?_⟩) ?_ ?_
                rotate_left
                · intro w'
                  go_simp
                  with_reducible rfl
                rotate_left
                · simp only [Act.put, List.setIfInBounds_toArray, List.set_cons_zero, List.set_cons_succ, i64_w, i32_w]
                  rfl
                refine pure_ (i := 10) (N := (some 50)) (v := ?_) (a' := ?_) #[true, true, true, true, true, true, true, true, false, false, true, false, false] rfl rfl (by kernel_rfl) (fun _ _ _ h => h) (Or.inl ⟨by rfl, ?_⟩) ?_ ?_
                rotate_left
                · intro w'
                  go_simp
                  with_reducible rfl
                rotate_left
                · simp only [Act.put, List.setIfInBounds_toArray, List.set_cons_zero, List.set_cons_succ, i64_w, i32_w]
                  rfl
                refine one_ (i := 8) (N := (some 48)) #[true, true, true, true, true, true, true, true, true, false, true, false, false] rfl rfl (by kernel_rfl) (by decide) (fun K hK => ?_)
                refine goes_ Tryd.func29 (by kernel_rfl) rfl #[.slice B lb.length cb, .int .i64 j] (by rfl) rfl rfl (by (try simp only [List.map_toArray, List.map_cons, List.map_nil]); first | done | rfl) ?_
                refine (aneroidref01_digit.calls B cb lb (j : Int) q Wd (Kd.C_below HCB.out HB.out) HLB.out HDI.out).mono ?_
                rintro e We ⟨rfl, hd⟩
                have hb := hd.below
                clear hd
                replace HX2 := Aside0.mk (blk_below HX2.out hb)
                replace HX3 := Aside0.mk (blk_below HX3.out hb)
                replace HX4 := Aside0.mk (blk_below HX4.out hb)
                replace HB := Aside0.mk (below_step HB.out hb)
                replace HR := Aside0.mk (Kd.R_below HR.out hb)
                replace HO := Aside0.mk (Kd.R_below HO.out hb)
                replace HB3 := Aside0.mk (Nat.le_trans HB3.out hb.size)
                clear hb hHeld
                refine ⟨_, rfl, ?_⟩
                refine hK.out _ _ ⟨(blk_cell HX2.out 1).trans rfl, (blk_cell HX3.out 1).trans rfl, pw_cell_below HB.out HE.out⟩ (fun hHeld => ?_)
                clear hK K
                refine norm_ (a' := ?_) ?_ ?_
                rotate_left
                · show Act.put _ (some 48) _ = _
                  simp only [Act.put, List.setIfInBounds_toArray, List.set_cons_zero, List.set_cons_succ, i64_w, i32_w]
                  rfl
                refine pure_ (i := 9) (N := (some 49)) (v := ?_) (a' := ?_) #[true, true, true, true, true, true, true, true, true, true, true, false, false] rfl rfl (by kernel_rfl) (fun _ _ _ h => h) (Or.inl ⟨by rfl, ?_⟩) ?_ ?_
                rotate_left
                · intro w'
                  go_simp
                  with_reducible rfl
                rotate_left
                · simp only [Act.put, List.setIfInBounds_toArray, List.set_cons_zero, List.set_cons_succ, i64_w, i32_w]
                  rfl
                refine pure_ (i := 11) (N := (some 51)) (v := ?_) (a' := ?_) #[true, true, true, true, true, true, true, true, true, true, true, true, false] rfl rfl (by kernel_rfl) (fun _ _ _ h => h) (Or.inl ⟨by rfl, ?_⟩) ?_ ?_
                rotate_left
                · intro w'
                  go_simp
                  with_reducible rfl
                rotate_left
                · simp only [Act.put, List.setIfInBounds_toArray, List.set_cons_zero, List.set_cons_succ, i64_w, i32_w]
                  rfl
                refine pure_ (i := 12) (N := (some 11)) (v := ?_) (a' := ?_) #[true, true, true, true, true, true, true, true, true, true, true, true, true] rfl rfl (by kernel_rfl) (fun _ _ _ h => h) (Or.inl ⟨by rfl, ?_⟩) ?_ ?_
                rotate_left
                · intro w'
                  go_simp
                  with_reducible rfl
                rotate_left
                · simp only [Act.put, List.setIfInBounds_toArray, List.set_cons_zero, List.set_cons_succ, i64_w, i32_w]
                  rfl
                refine done_ (by kernel_rfl) ?_
                clear hHeld
                go_upto_region 13 with (first
                  | ((with_reducible refine gate_builtin (b := .append) (xs := #[.tmp 52, .tmp 55]) rfl ?_); at_builtin; refine Kd.R_append (Kd.int .u64) (w0 := w) w.heap.size rfl (.tmp 52) (.tmp 55) 53 61 (.int .u64 0) 8 rfl Tryd.underlying53 info61 rfl (by decide) (by decide) u7 row (X % 65536) [.int .u64 (X % 65536)] (fun _ => True) (fun _ => False) rfl rfl rfl (fun _ hk => hk.elim) (fun _ _ => trivial) HR.out HB.out HB.out.size LIM.out ?_; intro v56 w12 ho hb hg hat; have HO2 := Aside0.mk (Kd.R_grown1 HO.out rfl hg (ne_of HT.out HN.out)); have HX22 := Aside0.mk (blk_grown HX2.out hg (Kd.R_ne HR.out HX2.out (by decide))); have HX32 := Aside0.mk (blk_grown HX3.out hg (Kd.R_ne HR.out HX3.out (by decide))); have HX42 := Aside0.mk (blk_grown HX4.out hg (Kd.R_ne HR.out HX4.out (by decide))); have HR2 := Aside0.mk ho; have HB2 := Aside0.mk hb; have HT2 := Aside0.mk (at_of hat HT.out (Nat.le_trans HNB.out HB3.out)); have HB32 := Aside0.mk (Nat.le_trans HB3.out hg.size); clear ho hb hg hat))
                clear m1 m2 m3 m4 m5
                go_wp2_with fail
                go_roundw
                case rel => exact ⟨j + 1, X / 65536, row ++ [X % 65536], hj6, rfl, rfl, HXX.out, HXZ.out, HDR2, HLR2, by rw [← PP.out]; exact HVR2, HR2, HT2, HB32, HO2, HX22, HX32, HX42, HB2⟩
                case measure =>
                  show lb.length + 1 - (((j + 1 : Nat) : Int)).toNat < lb.length + 1 - ((j : Nat) : Int).toNat
                  simp only [Int.toNat_natCast]
                  exact meas hjm
            · have q1 : decide ((j : Int) < (lb.length : Int)) = false := decide_eq_false (by omega)
              have q3 : decide (0 < c) = false := decide_eq_false (by omega)
              have hc0 : c = 0 := by omega
              subst hc0
              have HVF := Aside0.mk (show val row = 65536 ^ k * (rd la (k : Int) * val lb) by
                have h := HVR.out
                rw [val_snoc0, List.take_of_length_le (by omega)] at h
                exact h)
              clear HVR
              obtain ⟨A5, c5, rfl⟩ := Kd.R_slice HO.out
              obtain ⟨A7, c7, rfl⟩ := Kd.R_slice HR.out
              obtain ⟨m, hm⟩ : ∃ m, m = k + lb.length + 2 := ⟨_, rfl⟩
              have hm1 : out.length ≤ m := by rw [hm]; exact HLO.out
              have hm2 : row.length ≤ m := by rw [hm, HLR.out]; omega
              have hm3 : m ≤ 1000 := by have := HM5.out; have := HL5.out; omega
              obtain ⟨s, hf, hds, hls, hvs⟩ := sum_g out row m HDO.out HDR.out hm1 hm2 hm3
              have HLS := Aside0.mk (show s.length ≤ (k + 1) + lb.length + 2 by omega)
              have HDS := Aside0.mk hds
              have HVS : Aside0 (val s = val (la.take (k + 1)) * val lb) := ⟨by
                rw [hvs, HVO.out, HVF.out, take_any]
                grind⟩
              have q5 : wrap64 ((k : Int) + 1) = ((k + 1 : Nat) : Int) := cast_succ k (by omega)
              have hk7 : k + 1 ≤ la.length := hlt
              clear hm1 hm2 hm3 hm hds hls hvs
              go_wp2_with fail
              refine (aneroidref01_sum.calls _ A5 c5 out A7 c7 row s wr (Kd.R_reads' HO.out).2.2 (Kd.R_reads' HO.out).2.1 (Kd.R_reads' HR.out).2.2 (Kd.R_reads' HR.out).2.1 hf).mono ?_
              rintro e w9 ⟨v9, rfl, ho, hb⟩
              have HS9 := Aside0.mk (Kd.R_lower ho HB.out.size)
              replace HX2 := Aside0.mk (blk_below HX2.out hb)
              replace HX3 := Aside0.mk (blk_below HX3.out hb)
              replace HX4 := Aside0.mk (blk_below HX4.out hb)
              replace HB := Aside0.mk (below_step HB.out hb)
              clear ho hb hf
              go_wp2_with fail
              go_roundw
              case rel => exact ⟨k + 1, s, hk7, by rw [q5], HLS, HDS, HVS, HS9, HX2, HX3, HX4, HB⟩
              case measure =>
                rw [q5]
                simp only [intOf, Int.toNat_natCast]
                exact meas hlt
    · have hi2 : i = la.length := by omega
      subst hi2
      have HVZ := Aside0.mk (show val out = a * b by rw [HVO.out, List.take_length, HZ.out])
      have hlo : out.length ≤ 2000 := by have := HLO.out; have := HM5.out; have := HL5.out; omega
      obtain ⟨A5, c5, rfl⟩ := Kd.R_slice HO.out
      have x20 : wr.cell? ⟨b2, 0, none⟩ = some (.bool false) := (blk_cell HX2.out 0).trans rfl
      have x30 : wr.cell? ⟨b3, 0, none⟩ = some (.bool false) := (blk_cell HX3.out 0).trans rfl
      go_wp2_with fail
      refine (cut_any wr false A5 c5 out (Kd.R_reads' HO.out).2.2 (Kd.R_reads' HO.out).2.1 HDO.out hlo).mono ?_
      rintro e w2 ⟨v, rfl, hv, hb⟩
      rw [if_neg (by decide), HVZ.out] at hv
      replace HX4 := Aside0.mk (blk_below HX4.out hb)
      replace HB := Aside0.mk (below_step HB.out hb)
      clear hb HO HX2 HX3 x20 x30 x21
      obtain ⟨ng, A7, n7, c7, rfl⟩ := hv.form
      have HV := Aside0.mk hv
      have c0 : w2.cell? ⟨b4, 0, none⟩ = some (.bool false) := (blk_cell HX4.out 0).trans rfl
      have c1 : w2.cell? ⟨b4, 1, none⟩ = some (.slice none 0 0) := (blk_cell HX4.out 1).trans rfl
      have f0 := blk_frozen HX4.out 0
      have f1 := blk_frozen HX4.out 1
      clear hv
      go_wp2_with fail
      obtain ⟨r0, r1, hv, hB⟩ := store_big HX4.out g4 HB.out HV.out
      generalize (w2.setCell ⟨b4, 0, none⟩ (.bool ng)).setCell ⟨b4, 1, none⟩ (.slice A7 n7 c7) = W at r0 r1 hv hB ⊢
      clear c0 c1 f0 f1
      refine ⟨rfl, .agg #[.bool ng, .slice A7 n7 c7], ?_, _, rfl, hv, hB⟩
      simp [results, Tryd.results23, go_sem, r0, r1]

end Go.Proofs.YtofmingbmcinhaaDoor.Bg
