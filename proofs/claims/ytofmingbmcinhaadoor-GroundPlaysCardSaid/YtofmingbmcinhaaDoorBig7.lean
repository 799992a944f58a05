/- The document's whole numbers of any size (layer 1): the walks of its Div, Int. -/
import Derived.Test.YtofmingbmcinhaaDoorBig6
namespace Go.Proofs.YtofmingbmcinhaaDoor.Bg
open Go.RowKit Go.Proofs.YtofmingbmcinhaaDoorW.PrintWords Go.Proofs.YtofmingbmcinhaaDoorW.PrintLast Go.Proofs.YtofmingbmcinhaaDoorW.PrintMore Go.Proofs.YtofmingbmcinhaaDoor.PGroundPlays
set_option linter.unusedVariables false
set_option linter.unusedSimpArgs false

theorem IsBig.pos {w : World} {v : Value} {z : Int} (h : IsBig w v z) (h0 : 0 ≤ z) : ∃ A n c, v = .agg #[.bool false, .slice A n c] := by
  obtain ⟨neg, l, A, c, e, _, _, _, _, hz, hp⟩ := h
  cases neg with
  | false => exact ⟨A, l.length, c, e⟩
  | true => have := hp rfl; simp at hz; omega
set_option maxRecDepth 100000 in
set_option maxHeartbeats 4000000 in
theorem div_any (w : World) (va vb : Value) (a b : Int) (hva : IsBig w va a) (hvb : IsBig w vb b) (ha : Small a) (hb : b < 1099511627776) (ha0 : 0 ≤ a) (hb0 : 0 < b) :
    Calls Tryd.prog 27 #[va, vb] w fun e w' => ∃ v, e = .returned v ∧ IsBig w' v (a / b) ∧ Below w.heap.size w w' := by
  obtain ⟨A, n, ca, rfl⟩ := hva.pos ha0
  obtain ⟨B, m, cb, rfl⟩ := hvb.pos (Int.le_of_lt hb0)
  have HVA := Aside0.mk hva
  have HVB := Aside0.mk hvb
  have HSA := Aside0.mk ha
  have HSB := Aside0.mk hb
  have HA0 := Aside0.mk ha0
  have HB0 := Aside0.mk hb0
  clear hva hvb ha hb ha0 hb0
  go_enter Tryd.func27, Tryd.ntmps27
  go_upto_region 1 with fail
  obtain ⟨x2, x3, x4, hB⟩ := blocks3 w #[.bool false, .slice A n ca] #[.bool false, .slice B m cb] #[.bool false, .slice none 0 0] 55 55 55
  generalize ((w.alloc (.cells #[.bool false, .slice A n ca] 55)).alloc (.cells #[.bool false, .slice B m cb] 55)).alloc (.cells #[.bool false, .slice none 0 0] 55) = w1 at x2 x3 x4 hB ⊢
  obtain ⟨b2, h2⟩ : ∃ b, b = w.heap.size := ⟨_, rfl⟩
  obtain ⟨b3, h3⟩ : ∃ b, b = w.heap.size + 1 := ⟨_, rfl⟩
  obtain ⟨b4, h4⟩ : ∃ b, b = w.heap.size + 1 + 1 := ⟨_, rfl⟩
  have g4 : w.heap.size ≤ b4 := by omega
  have d24 : b2 ≠ b4 := by omega
  have d34 : b3 ≠ b4 := by omega
  rw [← h4, ← h3, ← h2]
  rw [← h4] at x4
  rw [← h3] at x3
  rw [← h2] at x2
  have HX2 := Aside0.mk x2
  have HX3 := Aside0.mk x3
  have HX4 := Aside0.mk x4
  have HB := Aside0.mk hB
  clear x2 x3 x4 hB h2 h3 h4
  have x20 : w1.cell? ⟨b2, 0, none⟩ = some (.bool false) := (blk_cell HX2.out 0).trans rfl
  have x21 : w1.cell? ⟨b2, 1, none⟩ = some (.slice A n ca) := (blk_cell HX2.out 1).trans rfl
  have x30 : w1.cell? ⟨b3, 0, none⟩ = some (.bool false) := (blk_cell HX3.out 0).trans rfl
  have x31 : w1.cell? ⟨b3, 1, none⟩ = some (.slice B m cb) := (blk_cell HX3.out 1).trans rfl
  go_wp2_with fail
  refine (down_any w1 _ _ a b (HVA.out.below HB.out) (HVB.out.below HB.out) HSA.out HSB.out HA0.out HB0.out).mono ?_
  rintro e w2 ⟨v, rfl, hv, hb⟩
  replace HX4 := Aside0.mk (blk_below HX4.out hb)
  replace HB := Aside0.mk (below_step HB.out hb)
  clear hb x20 x21 x30 x31
  obtain ⟨ng, A7, n7, c7, rfl⟩ := hv.form
  have HV := Aside0.mk hv
  have c0 : w2.cell? ⟨b4, 0, none⟩ = some (.bool false) := (blk_cell HX4.out 0).trans rfl
  have c1 : w2.cell? ⟨b4, 1, none⟩ = some (.slice none 0 0) := (blk_cell HX4.out 1).trans rfl
  have f0 := blk_frozen HX4.out 0
  have f1 := blk_frozen HX4.out 1
  clear hv
  go_wp2_with fail
  obtain ⟨r0, r1, hv, hB⟩ := store_big HX4.out g4 HB.out HV.out
  generalize (w2.setCell ⟨b4, 0, none⟩ (.bool ng)).setCell ⟨b4, 1, none⟩ (.slice A7 n7 c7) = W at r0 r1 hv hB ⊢
  clear c0 c1 f0 f1
  refine ⟨rfl, .agg #[.bool ng, .slice A7 n7 c7], ?_, _, rfl, hv, hB⟩
  simp [results, Tryd.results27, go_sem, r0, r1]

theorem power_big {w : World} {base : Nat} {ok : Nat → Prop} {v : Value} (h : Kd.R (Kd.int .u64) 61 w base ok v [0, 0, 0, 32768]) : IsBig w (.agg #[.bool false, v]) 9223372036854775808 := by
  obtain ⟨A, c, rfl⟩ := Kd.R_slice h
  refine ⟨false, [0, 0, 0, 32768], A, c, rfl, (Kd.R_reads' h).2.2, (Kd.R_reads' h).2.1, ?_, ?_, by decide, fun h => by cases h⟩
  · intro d hd
    simp at hd
    rcases hd with rfl | rfl <;> decide
  · intro n hn
    have : n = 3 := by simp at hn; omega
    subst this
    decide
theorem power_low {w : World} {base : Nat} {ok : Nat → Prop} {v : Value} (h : Kd.R (Kd.int .u64) 61 w base ok v [0, 0, 256]) : IsBig w (.agg #[.bool false, v]) 1099511627776 := by
  obtain ⟨A, c, rfl⟩ := Kd.R_slice h
  refine ⟨false, [0, 0, 256], A, c, rfl, (Kd.R_reads' h).2.2, (Kd.R_reads' h).2.1, ?_, ?_, by decide, fun h => by cases h⟩
  · intro d hd
    simp at hd
    rcases hd with rfl | rfl <;> decide
  · intro n hn
    have : n = 2 := by simp at hn; omega
    subst this
    decide
set_option maxRecDepth 100000 in
set_option maxHeartbeats 4000000 in
theorem int_any (w : World) (va : Value) (a : Int) (hva : IsBig w va a) (ha0 : 0 ≤ a) (ha : a < 4611686018427387904) :
    Calls Tryd.prog 26 #[va] w fun e w' => e = .returned (.tuple #[.int .i64 a, .int .i64 0]) ∧ Below w.heap.size w w' := by
  obtain ⟨A, n, ca, rfl⟩ := hva.pos ha0
  have HVA := Aside0.mk hva
  have hsm : Small a := by unfold Small; omega
  have HSA := Aside0.mk hsm
  have hc1 : decide (0 ≤ cmpv (a - 9223372036854775808)) = false := decide_eq_false (by unfold cmpv; split; omega; split <;> omega)
  have hc2 : decide (cmpv (a - -9223372036854775808) < 0) = false := decide_eq_false (by unfold cmpv; split; omega; split <;> omega)
  have hc3 : decide (cmpv (a + 9223372036854775808) < 0) = false := decide_eq_false (by unfold cmpv; split; omega; split <;> omega)
  have hw : wrap64 a = a := w64 (by omega) (by omega)
  obtain ⟨neg, l, A2, c2, e2, hC, hc, hd, hn, hz, hp⟩ := hva
  simp at e2
  obtain ⟨rfl, rfl, rfl, rfl⟩ := e2
  have hvl : val l = a := by simpa using hz.symm
  have hl4 : l.length ≤ 4 := by
    rcases Nat.lt_or_ge 4 l.length with h | h
    · have t5 := top_pos hd hn 4 h
      have d0 : val l = rd l 0 + 65536 * val (l.drop 1) := val_drop l 0
      have d1 : val (l.drop 1) = rd l 1 + 65536 * val (l.drop 2) := val_drop l 1
      have d2 : val (l.drop 2) = rd l 2 + 65536 * val (l.drop 3) := val_drop l 2
      have d3 : val (l.drop 3) = rd l 3 + 65536 * val (l.drop 4) := val_drop l 3
      have g0 : 0 ≤ rd l 0 ∧ rd l 0 < 65536 := hd.rd 0
      have g1 : 0 ≤ rd l 1 ∧ rd l 1 < 65536 := hd.rd 1
      have g2 : 0 ≤ rd l 2 ∧ rd l 2 < 65536 := hd.rd 2
      have g3 : 0 ≤ rd l 3 ∧ rd l 3 < 65536 := hd.rd 3
      omega
    · exact h
  have HLO := Aside0.mk (show aneroidref01_low.f 5 l = some a by rw [low_f l hd hl4 (by omega), hvl])
  have HCL := Aside0.mk hC
  have HCC := Aside0.mk hc
  clear hC hc hd hn hz hp hvl hl4 ha ha0 hsm
  go_enter Tryd.func26, Tryd.ntmps26
  go_upto_region 1 with fail
  have HX1 := Aside0.mk (blk_new w (.cells #[.bool false, .slice A l.length ca] 55))
  have HB := Aside0.mk (below_alloc (Below.refl w.heap.size w) (.cells #[.bool false, .slice A l.length ca] 55))
  obtain ⟨b1, hb1⟩ : ∃ b, b = w.heap.size := ⟨_, rfl⟩
  rw [← hb1] at HX1 ⊢
  clear hb1
  generalize w.alloc (.cells #[.bool false, .slice A l.length ca] 55) = w1 at HX1 HB ⊢
  refine start_ (n := 11) (S := fun w' => w'.cell? ⟨b1, 0, none⟩ = some (.bool false) ∧ w'.cell? ⟨b1, 1, none⟩ = some (.slice A l.length ca)) (ds := []) #[false, false, false, false, false, false, false, false, false, false, false] (by kernel_rfl) rfl rfl ⟨(blk_cell HX1.out 0).trans rfl, (blk_cell HX1.out 1).trans rfl⟩ (fun hHeld => ?_)
  replace HX1 := Aside0.mk (blk_drew HX1.out)
  replace HB := Aside0.mk (below_drew HB.out)
  generalize w1.drew = Wd at HX1 HB hHeld ⊢
  refine take_ (i := 0) (N := (some 4)) (v := ?_) (a' := ?_) #[true, false, false, false, false, false, false, false, false, false, false] rfl rfl (by kernel_rfl) (fun _ _ _ h => h) (Or.inl ⟨by rfl, ?_⟩) hHeld ?_ ?_
  rotate_left
  · rintro w' ⟨s0, s1⟩
    go_simp
    with_reducible rfl
  rotate_left
  · simp only [Act.put, List.setIfInBounds_toArray, List.set_cons_zero, List.set_cons_succ, i64_w, i32_w]
    rfl
  refine one_ (i := 1) (N := (some 5)) #[true, true, false, false, false, false, false, false, false, false, false] rfl rfl (by kernel_rfl) (by decide) (fun K hK => ?_)
  refine goes_ Tryd.func25 (by kernel_rfl) rfl #[.int .i64 63] (by rfl) rfl rfl (by (try simp only [List.map_toArray, List.map_cons, List.map_nil]); first | done | rfl) ?_
  refine (aneroidref01_Power.calls 30 63 false [0, 0, 0, 32768] Wd power63).mono ?_
  rintro e We ⟨v1, rfl, ho, hb⟩
  replace HX1 := Aside0.mk (blk_below HX1.out hb)
  replace HB := Aside0.mk (below_step HB.out hb)
  have HP := Aside0.mk (power_big ho)
  clear ho
  clear hb hHeld
  refine ⟨_, rfl, ?_⟩
  refine hK.out _ _ ⟨(blk_cell HX1.out 0).trans rfl, (blk_cell HX1.out 1).trans rfl⟩ (fun hHeld => ?_)
  clear hK K
  refine norm_ (a' := ?_) ?_ ?_
  rotate_left
  · show Act.put _ (some 5) _ = _
    simp only [Act.put, List.setIfInBounds_toArray, List.set_cons_zero, List.set_cons_succ, i64_w, i32_w]
    rfl
  refine one_ (i := 2) (N := (some 6)) #[true, true, true, false, false, false, false, false, false, false, false] rfl rfl (by kernel_rfl) (by decide) (fun K hK => ?_)
  refine goes_ Tryd.func33 (by kernel_rfl) rfl #[.agg #[.bool false, .slice A l.length ca], .agg #[.bool false, v1]] (by rfl) rfl rfl (by (try simp only [List.map_toArray, List.map_cons, List.map_nil]); first | done | rfl) ?_
  refine (cmp_any We _ _ a 9223372036854775808 (HVA.out.below HB.out) HP.out HSA.out (by unfold Small; decide)).mono ?_
  rintro e Wf ⟨rfl, hb⟩
  replace HX1 := Aside0.mk (blk_below HX1.out hb)
  replace HB := Aside0.mk (below_step HB.out hb)
  clear HP
  clear hb hHeld
  refine ⟨_, rfl, ?_⟩
  refine hK.out _ _ ⟨(blk_cell HX1.out 0).trans rfl, (blk_cell HX1.out 1).trans rfl⟩ (fun hHeld => ?_)
  clear hK K
  refine norm_ (a' := ?_) ?_ ?_
  rotate_left
  · show Act.put _ (some 6) _ = _
    simp only [Act.put, List.setIfInBounds_toArray, List.set_cons_zero, List.set_cons_succ, i64_w, i32_w]
    rfl
  refine pure_ (i := 3) (N := (some 7)) (v := ?_) (a' := ?_) #[true, true, true, true, false, false, false, false, false, false, false] rfl rfl (by kernel_rfl) (fun _ _ _ h => h) (Or.inl ⟨by rfl, ?_⟩) ?_ ?_
  rotate_left
  · intro w'
    go_simp
    with_reducible rfl
  rotate_left
  · simp only [Act.put, List.setIfInBounds_toArray, List.set_cons_zero, List.set_cons_succ, i64_w, i32_w]
    rfl
  refine pure_ (i := 4) (N := (some 8)) (v := ?_) (a' := ?_) #[true, true, true, true, true, false, false, false, false, false, false] rfl rfl (by kernel_rfl) (fun _ _ _ h => h) (Or.inl ⟨by rfl, ?_⟩) ?_ ?_
  rotate_left
  · intro w'
    go_simp
    with_reducible rfl
  rotate_left
  · simp only [Act.put, List.setIfInBounds_toArray, List.set_cons_zero, List.set_cons_succ, i64_w, i32_w]
    rfl
  refine take_ (i := 5) (N := (some 9)) (v := ?_) (a' := ?_) #[true, true, true, true, true, true, false, false, false, false, false] rfl rfl (by kernel_rfl) (fun _ _ _ h => h) (Or.inl ⟨by rfl, ?_⟩) hHeld ?_ ?_
  rotate_left
  · rintro w' ⟨s0, s1⟩
    go_simp
    with_reducible rfl
  rotate_left
  · simp only [Act.put, List.setIfInBounds_toArray, List.set_cons_zero, List.set_cons_succ, i64_w, i32_w]
    rfl
  refine one_ (i := 6) (N := (some 10)) #[true, true, true, true, true, true, true, false, false, false, false] rfl rfl (by kernel_rfl) (by decide) (fun K hK => ?_)
  refine goes_ Tryd.func25 (by kernel_rfl) rfl #[.int .i64 63] (by rfl) rfl rfl (by (try simp only [List.map_toArray, List.map_cons, List.map_nil]); first | done | rfl) ?_
  refine (aneroidref01_Power.calls 30 63 false [0, 0, 0, 32768] Wf power63).mono ?_
  rintro e Wg ⟨v2, rfl, ho, hb⟩
  replace HX1 := Aside0.mk (blk_below HX1.out hb)
  replace HB := Aside0.mk (below_step HB.out hb)
  have HP := Aside0.mk (power_big ho)
  clear ho
  clear hb hHeld
  refine ⟨_, rfl, ?_⟩
  refine hK.out _ _ ⟨(blk_cell HX1.out 0).trans rfl, (blk_cell HX1.out 1).trans rfl⟩ (fun hHeld => ?_)
  clear hK K
  refine norm_ (a' := ?_) ?_ ?_
  rotate_left
  · show Act.put _ (some 10) _ = _
    simp only [Act.put, List.setIfInBounds_toArray, List.set_cons_zero, List.set_cons_succ, i64_w, i32_w]
    rfl
  refine one_ (i := 7) (N := (some 11)) #[true, true, true, true, true, true, true, true, false, false, false] rfl rfl (by kernel_rfl) (by decide) (fun K hK => ?_)
  refine goes_ Tryd.func34 (by kernel_rfl) rfl #[.agg #[.bool false, v2]] (by rfl) rfl rfl (by (try simp only [List.map_toArray, List.map_cons, List.map_nil]); first | done | rfl) ?_
  refine (turn_any Wg _ 9223372036854775808 HP.out (by unfold Small; decide)).mono ?_
  rintro e Wh ⟨v3, rfl, hv, hb⟩
  replace HX1 := Aside0.mk (blk_below HX1.out hb)
  replace HB := Aside0.mk (below_step HB.out hb)
  have HT := Aside0.mk hv
  clear hv HP
  clear hb hHeld
  refine ⟨_, rfl, ?_⟩
  refine hK.out _ _ ⟨(blk_cell HX1.out 0).trans rfl, (blk_cell HX1.out 1).trans rfl⟩ (fun hHeld => ?_)
  clear hK K
  refine norm_ (a' := ?_) ?_ ?_
  rotate_left
  · show Act.put _ (some 11) _ = _
    simp only [Act.put, List.setIfInBounds_toArray, List.set_cons_zero, List.set_cons_succ, i64_w, i32_w]
    rfl
  refine one_ (i := 8) (N := (some 12)) #[true, true, true, true, true, true, true, true, true, false, false] rfl rfl (by kernel_rfl) (by decide) (fun K hK => ?_)
  refine goes_ Tryd.func33 (by kernel_rfl) rfl #[.agg #[.bool false, .slice A l.length ca], v3] (by rfl) rfl rfl (by (try simp only [List.map_toArray, List.map_cons, List.map_nil]); first | done | rfl) ?_
  refine (cmp_any Wh _ _ a (-9223372036854775808) (HVA.out.below HB.out) HT.out HSA.out (by unfold Small; decide)).mono ?_
  rintro e Wi ⟨rfl, hb⟩
  replace HX1 := Aside0.mk (blk_below HX1.out hb)
  replace HB := Aside0.mk (below_step HB.out hb)
  clear HT
  clear hb hHeld
  refine ⟨_, rfl, ?_⟩
  refine hK.out _ _ ⟨(blk_cell HX1.out 0).trans rfl, (blk_cell HX1.out 1).trans rfl⟩ (fun hHeld => ?_)
  clear hK K
  refine norm_ (a' := ?_) ?_ ?_
  rotate_left
  · show Act.put _ (some 12) _ = _
    simp only [Act.put, List.setIfInBounds_toArray, List.set_cons_zero, List.set_cons_succ, i64_w, i32_w]
    rfl
  refine pure_ (i := 9) (N := (some 13)) (v := ?_) (a' := ?_) #[true, true, true, true, true, true, true, true, true, true, false] rfl rfl (by kernel_rfl) (fun _ _ _ h => h) (Or.inl ⟨by rfl, ?_⟩) ?_ ?_
  rotate_left
  · intro w'
    go_simp
    with_reducible rfl
  rotate_left
  · simp only [Act.put, List.setIfInBounds_toArray, List.set_cons_zero, List.set_cons_succ, i64_w, i32_w]
    rfl
  refine pure_ (i := 10) (N := (some 14)) (v := ?_) (a' := ?_) #[true, true, true, true, true, true, true, true, true, true, true] rfl rfl (by kernel_rfl) (fun _ _ _ h => h) (Or.inl ⟨by rfl, ?_⟩) ?_ ?_
  rotate_left
  · intro w'
    go_simp
    with_reducible rfl
  rotate_left
  · simp only [Act.put, List.setIfInBounds_toArray, List.set_cons_zero, List.set_cons_succ, i64_w, i32_w]
    rfl
  refine done_ (by kernel_rfl) ?_
  have x0 : Wi.cell? ⟨b1, 0, none⟩ = some (.bool false) := (blk_cell HX1.out 0).trans rfl
  have x1 : Wi.cell? ⟨b1, 1, none⟩ = some (.slice A l.length ca) := (blk_cell HX1.out 1).trans rfl
  clear hHeld
  go_wp2_with fail
  refine (aneroidref01_low.calls 5 A ca l a Wi (Kd.C_below HCL.out HB.out) HCC.out HLO.out).mono ?_
  rintro e wj ⟨rfl, hd⟩
  have hb := hd.below
  clear hd
  go_wp2_with fail
  refine bodyPost_ret (results_tmp2 rfl _ _ _) rfl ?_
  exact ⟨by rw [hw]; rfl, below_step HB.out hb⟩
end Go.Proofs.YtofmingbmcinhaaDoor.Bg
