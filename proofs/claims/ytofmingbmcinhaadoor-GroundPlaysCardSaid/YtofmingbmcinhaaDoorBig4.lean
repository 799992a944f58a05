/- The document's whole numbers of any size (layer 1): the walks of its Sub, Cmp. -/
import Derived.Test.YtofmingbmcinhaaDoorBig3
namespace Go.Proofs.YtofmingbmcinhaaDoor.Bg
open Go.RowKit Go.Proofs.YtofmingbmcinhaaDoorW.PrintWords Go.Proofs.YtofmingbmcinhaaDoorW.PrintLast Go.Proofs.YtofmingbmcinhaaDoorW.PrintMore Go.Proofs.YtofmingbmcinhaaDoor.PGroundPlays
set_option linter.unusedVariables false
set_option linter.unusedSimpArgs false

set_option maxRecDepth 100000 in
set_option maxHeartbeats 4000000 in
theorem sub_any (w : World) (va vb : Value) (a b : Int) (hva : IsBig w va a) (hvb : IsBig w vb b) (ha : Small a) (hb : Small b) :
    Calls Tryd.prog 36 #[va, vb] w fun e w' => ∃ v, e = .returned v ∧ IsBig w' v (a - b) ∧ Below w.heap.size w w' := by
  obtain ⟨na, A, n, ca, rfl⟩ := hva.form
  obtain ⟨nb, B, m, cb, rfl⟩ := hvb.form
  have HVA := Aside0.mk hva
  have HVB := Aside0.mk hvb
  have HSA := Aside0.mk ha
  have HSB := Aside0.mk hb
  clear hva hvb ha hb
  go_enter Tryd.func36, Tryd.ntmps36
  go_upto_region 1 with fail
  obtain ⟨x2, x3, x4, hB⟩ := blocks3 w #[.bool na, .slice A n ca] #[.bool nb, .slice B m cb] #[.bool false, .slice none 0 0] 55 55 55
  generalize ((w.alloc (.cells #[.bool na, .slice A n ca] 55)).alloc (.cells #[.bool nb, .slice B m cb] 55)).alloc (.cells #[.bool false, .slice none 0 0] 55) = w1 at x2 x3 x4 hB ⊢
  obtain ⟨b2, h2⟩ : ∃ b, b = w.heap.size := ⟨_, rfl⟩
  obtain ⟨b3, h3⟩ : ∃ b, b = w.heap.size + 1 := ⟨_, rfl⟩
  obtain ⟨b4, h4⟩ : ∃ b, b = w.heap.size + 1 + 1 := ⟨_, rfl⟩
  have g4 : w.heap.size ≤ b4 := by omega
  have d24 : b2 ≠ b4 := by omega
  have d34 : b3 ≠ b4 := by omega
  rw [← h4, ← h3, ← h2]
  rw [← h4] at x4
  rw [← h3] at x3
  rw [← h2] at x2
  have HX2 := Aside0.mk x2
  have HX3 := Aside0.mk x3
  have HX4 := Aside0.mk x4
  have HB := Aside0.mk hB
  clear x2 x3 x4 hB h2 h3 h4
  refine start_ (n := 5) (S := fun w' => w'.cell? ⟨b2, 0, none⟩ = some (.bool na) ∧ w'.cell? ⟨b2, 1, none⟩ = some (.slice A n ca) ∧ w'.cell? ⟨b3, 0, none⟩ = some (.bool nb) ∧ w'.cell? ⟨b3, 1, none⟩ = some (.slice B m cb)) (ds := []) #[false, false, false, false, false] (by kernel_rfl) rfl rfl ⟨(blk_cell HX2.out 0).trans rfl, (blk_cell HX2.out 1).trans rfl, (blk_cell HX3.out 0).trans rfl, (blk_cell HX3.out 1).trans rfl⟩ (fun hHeld => ?_)
  replace HX2 := Aside0.mk (blk_drew HX2.out)
  replace HX3 := Aside0.mk (blk_drew HX3.out)
  replace HX4 := Aside0.mk (blk_drew HX4.out)
  replace HB := Aside0.mk (below_drew HB.out)
  generalize w1.drew = Wd at HX2 HX3 HX4 HB hHeld ⊢
  refine take_ (i := 0) (N := (some 5)) (v := ?_) (a' := ?_) #[true, false, false, false, false] rfl rfl (by kernel_rfl) (fun _ _ _ h => h) (Or.inl ⟨by rfl, ?_⟩) hHeld ?_ ?_
  rotate_left
  · rintro w' ⟨s0, s1, s2, s3⟩
    go_simp
    with_reducible rfl
  rotate_left
  · simp only [Act.put, List.setIfInBounds_toArray, List.set_cons_zero, List.set_cons_succ, i64_w, i32_w]
    rfl
  refine take_ (i := 1) (N := (some 6)) (v := ?_) (a' := ?_) #[true, true, false, false, false] rfl rfl (by kernel_rfl) (fun _ _ _ h => h) (Or.inl ⟨by rfl, ?_⟩) hHeld ?_ ?_
  rotate_left
  · rintro w' ⟨s0, s1, s2, s3⟩
    go_simp
    with_reducible rfl
  rotate_left
  · simp only [Act.put, List.setIfInBounds_toArray, List.set_cons_zero, List.set_cons_succ, i64_w, i32_w]
    rfl
  refine one_ (i := 2) (N := (some 7)) #[true, true, true, false, false] rfl rfl (by kernel_rfl) (by decide) (fun K hK => ?_)
  refine goes_ Tryd.func34 (by kernel_rfl) rfl #[.agg #[.bool nb, .slice B m cb]] (by rfl) rfl rfl (by (try simp only [List.map_toArray, List.map_cons, List.map_nil]); first | done | rfl) ?_
  refine (turn_any Wd _ b (HVB.out.below HB.out) HSB.out).mono ?_
  rintro e We ⟨v1, rfl, hv, hb⟩
  replace HX2 := Aside0.mk (blk_below HX2.out hb)
  replace HX3 := Aside0.mk (blk_below HX3.out hb)
  replace HX4 := Aside0.mk (blk_below HX4.out hb)
  replace HB := Aside0.mk (below_step HB.out hb)
  have HV := Aside0.mk hv
  clear hv
  clear hb hHeld
  refine ⟨_, rfl, ?_⟩
  refine hK.out _ _ ⟨(blk_cell HX2.out 0).trans rfl, (blk_cell HX2.out 1).trans rfl, (blk_cell HX3.out 0).trans rfl, (blk_cell HX3.out 1).trans rfl⟩ (fun hHeld => ?_)
  clear hK K
  refine norm_ (a' := ?_) ?_ ?_
  rotate_left
  · show Act.put _ (some 7) _ = _
    simp only [Act.put, List.setIfInBounds_toArray, List.set_cons_zero, List.set_cons_succ, i64_w, i32_w]
    rfl
  refine one_ (i := 3) (N := (some 8)) #[true, true, true, true, false] rfl rfl (by kernel_rfl) (by decide) (fun K hK => ?_)
  refine goes_ Tryd.func38 (by kernel_rfl) rfl #[.agg #[.bool na, .slice A n ca], v1] (by rfl) rfl rfl (by (try simp only [List.map_toArray, List.map_cons, List.map_nil]); first | done | rfl) ?_
  refine (add_any We _ v1 a (-b) (HVA.out.below HB.out) HV.out HSA.out (by have := HSB.out; unfold Small at this ⊢; omega)).mono ?_
  rintro e Wf ⟨v2, rfl, hv, hb⟩
  replace HX2 := Aside0.mk (blk_below HX2.out hb)
  replace HX3 := Aside0.mk (blk_below HX3.out hb)
  replace HX4 := Aside0.mk (blk_below HX4.out hb)
  replace HB := Aside0.mk (below_step HB.out hb)
  have HW := Aside0.mk hv
  clear hv HV
  clear hb hHeld
  refine ⟨_, rfl, ?_⟩
  refine hK.out _ _ ⟨(blk_cell HX2.out 0).trans rfl, (blk_cell HX2.out 1).trans rfl, (blk_cell HX3.out 0).trans rfl, (blk_cell HX3.out 1).trans rfl⟩ (fun hHeld => ?_)
  clear hK K
  refine norm_ (a' := ?_) ?_ ?_
  rotate_left
  · show Act.put _ (some 8) _ = _
    simp only [Act.put, List.setIfInBounds_toArray, List.set_cons_zero, List.set_cons_succ, i64_w, i32_w]
    rfl
  obtain ⟨ng, A7, n7, c7, rfl⟩ := HW.out.form
  have c0 : Wf.cell? ⟨b4, 0, none⟩ = some (.bool false) := (blk_cell HX4.out 0).trans rfl
  have c1 : Wf.cell? ⟨b4, 1, none⟩ = some (.slice none 0 0) := (blk_cell HX4.out 1).trans rfl
  have f0 := blk_frozen HX4.out 0
  have f1 := blk_frozen HX4.out 1
  refine one_ (i := 4) (N := none) #[true, true, true, true, true] rfl rfl (by kernel_rfl) (by decide) (fun K hK => ?_)
  refine skip_ (w1 := (Wf.setCell ⟨b4, 0, none⟩ (.bool ng)).setCell ⟨b4, 1, none⟩ (.slice A7 n7 c7)) (by rfl) rfl (by first | (go_simp; done) | (go_simp; rfl)) ?_
  obtain ⟨r0, r1, hv2, hB2⟩ := store_big HX4.out g4 HB.out HW.out
  replace HX2 := Aside0.mk (blk_far (blk_far HX2.out (p := ⟨b4, 0, none⟩) (by assumption) (.bool ng)) (p := ⟨b4, 1, none⟩) (by assumption) (.slice A7 n7 c7))
  replace HX3 := Aside0.mk (blk_far (blk_far HX3.out (p := ⟨b4, 0, none⟩) (by assumption) (.bool ng)) (p := ⟨b4, 1, none⟩) (by assumption) (.slice A7 n7 c7))
  clear HX4 HB c0 c1 f0 f1 hHeld
  generalize (Wf.setCell ⟨b4, 0, none⟩ (.bool ng)).setCell ⟨b4, 1, none⟩ (.slice A7 n7 c7) = WS at r0 r1 hv2 hB2 HX2 HX3 ⊢
  refine hK.out _ _ ⟨(blk_cell HX2.out 0).trans rfl, (blk_cell HX2.out 1).trans rfl, (blk_cell HX3.out 0).trans rfl, (blk_cell HX3.out 1).trans rfl⟩ (fun hHeld => ?_)
  clear hK K
  refine done_ (by kernel_rfl) ?_
  rw [← Int.sub_eq_add_neg] at hv2
  go_wp2_with fail
  refine ⟨rfl, .agg #[.bool ng, .slice A7 n7 c7], ?_, _, rfl, hv2, hB2⟩
  simp [results, Tryd.results36, go_sem, r0, r1]


/-- What Cmp answers. -/
def cmpv (z : Int) : Int := if z < 0 then -1 else if 0 < z then 1 else 0
set_option maxRecDepth 100000 in
set_option maxHeartbeats 4000000 in
theorem cmp_any (w : World) (va vb : Value) (a b : Int) (hva : IsBig w va a) (hvb : IsBig w vb b) (ha : Small a) (hb : Small b) :
    Calls Tryd.prog 33 #[va, vb] w fun e w' => e = .returned (.int .i64 (cmpv (a - b))) ∧ Below w.heap.size w w' := by
  obtain ⟨na, A, n, ca, rfl⟩ := hva.form
  obtain ⟨nb, B, m, cb, rfl⟩ := hvb.form
  have HVA := Aside0.mk hva
  have HVB := Aside0.mk hvb
  have HSA := Aside0.mk ha
  have HSB := Aside0.mk hb
  clear hva hvb ha hb
  go_enter Tryd.func33, Tryd.ntmps33
  go_wp2_with fail
  obtain ⟨x2, x3, hB⟩ := blocks2 w #[.bool na, .slice A n ca] #[.bool nb, .slice B m cb] 55 55
  generalize (w.alloc (.cells #[.bool na, .slice A n ca] 55)).alloc (.cells #[.bool nb, .slice B m cb] 55) = w1 at x2 x3 hB ⊢
  have HB := Aside0.mk hB
  clear x2 x3 hB
  refine (sub_any w1 _ _ a b (HVA.out.below HB.out) (HVB.out.below HB.out) HSA.out HSB.out).mono ?_
  rintro e w2 ⟨v, rfl, hv, hb⟩
  replace HB := Aside0.mk (below_step HB.out hb)
  clear hb
  obtain ⟨ng, l, C, c, rfl, hC, hc, hd, hn, hz, hp⟩ := hv
  have HR : cmpv (a - b) = if ng = true then -1 else if 0 < l.length then 1 else 0 := by
    rw [hz]
    have h0 := val_nonneg hd
    unfold cmpv
    cases ng with
    | true => have := hp rfl; simp; omega
    | false =>
      rcases Nat.eq_zero_or_pos l.length with h | h
      · have : l = [] := List.eq_nil_of_length_eq_zero h
        subst this
        simp [val]
      · have := top_pos hd hn 0 h
        simp at this ⊢
        rw [if_neg (by omega), if_pos this, if_pos h]
  have HRR := Aside0.mk HR
  clear HR hC hc hd hn hz hp
  obtain ⟨k, hk⟩ : ∃ k, k = l.length := ⟨_, rfl⟩
  rw [← hk] at HRR ⊢
  clear hk
  cases ng with
  | true =>
    go_wp2_with fail
    go_ret
    exact ⟨by rw [HRR.out]; rfl, by repeat (first | exact HB.out | apply below_alloc | apply below_drew)⟩
  | false =>
    by_cases h : 0 < k
    · have k1 : decide ((0 : Int) < (k : Int)) = true := decide_eq_true (by omega)
      go_wp2_with fail
      go_ret
      exact ⟨by rw [HRR.out, if_neg (by decide), if_pos h]; rfl, by repeat (first | exact HB.out | apply below_alloc | apply below_drew)⟩
    · have k1 : decide ((0 : Int) < (k : Int)) = false := decide_eq_false (by omega)
      go_wp2_with fail
      go_ret
      exact ⟨by rw [HRR.out, if_neg (by decide), if_neg h]; rfl, by repeat (first | exact HB.out | apply below_alloc | apply below_drew)⟩

end Go.Proofs.YtofmingbmcinhaaDoor.Bg
