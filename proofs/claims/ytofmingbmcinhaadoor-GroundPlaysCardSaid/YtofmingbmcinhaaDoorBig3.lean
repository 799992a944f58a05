/- The document's whole numbers of any size (layer 1): the walks of its Turn, Add, Sub, Cmp. -/
import Derived.Test.YtofmingbmcinhaaDoorBig2
namespace Go.Proofs.YtofmingbmcinhaaDoor.Bg
open Go.RowKit Go.Proofs.YtofmingbmcinhaaDoorW.PrintWords Go.Proofs.YtofmingbmcinhaaDoorW.PrintLast Go.Proofs.YtofmingbmcinhaaDoorW.PrintMore Go.Proofs.YtofmingbmcinhaaDoor.PGroundPlays
set_option linter.unusedVariables false
set_option linter.unusedSimpArgs false

def Small (z : Int) : Prop := -1208925819614629174706176 < z ∧ z < 1208925819614629174706176
theorem size1 (w : World) (o : Obj) : (w.alloc o).heap.size = w.heap.size + 1 := by
  unfold World.alloc
  exact Array.size_push _
theorem blocks2 (w : World) (x y : Array Value) (t s : TypeId) : ((w.alloc (.cells x t)).alloc (.cells y s)).heap[w.heap.size]? = some (.cells x t (0, 0)) ∧ ((w.alloc (.cells x t)).alloc (.cells y s)).heap[w.heap.size + 1]? = some (.cells y s (0, 0)) ∧
    Below w.heap.size w ((w.alloc (.cells x t)).alloc (.cells y s)) := by
  have h := blk_new (w.alloc (.cells x t)) (.cells y s)
  rw [size1] at h
  exact ⟨blk_alloc (blk_new w _) _, h, below_alloc (below_alloc (Below.refl _ _) _) _⟩
theorem blocks3 (w : World) (x y z : Array Value) (t s r : TypeId) : (((w.alloc (.cells x t)).alloc (.cells y s)).alloc (.cells z r)).heap[w.heap.size]? = some (.cells x t (0, 0)) ∧ (((w.alloc (.cells x t)).alloc (.cells y s)).alloc (.cells z r)).heap[w.heap.size + 1]? = some (.cells y s (0, 0)) ∧
    (((w.alloc (.cells x t)).alloc (.cells y s)).alloc (.cells z r)).heap[w.heap.size + 1 + 1]? = some (.cells z r (0, 0)) ∧ Below w.heap.size w (((w.alloc (.cells x t)).alloc (.cells y s)).alloc (.cells z r)) := by
  obtain ⟨h1, h2, h3⟩ := blocks2 w x y t s
  have h := blk_new ((w.alloc (.cells x t)).alloc (.cells y s)) (.cells z r)
  rw [size1, size1] at h
  exact ⟨blk_alloc h1 _, blk_alloc h2 _, h, below_alloc h3 _⟩

set_option maxRecDepth 100000 in
set_option maxHeartbeats 4000000 in
theorem turn_any (w : World) (va : Value) (a : Int) (hva : IsBig w va a) (ha : Small a) : Calls Tryd.prog 34 #[va] w fun e w' => ∃ v, e = .returned v ∧ IsBig w' v (-a) ∧ Below w.heap.size w w' := by
  obtain ⟨na, la, A, ca, rfl, hCa, hca, hda, hna, hza, hpa⟩ := hva
  have hl : la.length ≤ 5 := big_len hda hna (by unfold Small at ha; cases na <;> simp at hza <;> omega)
  have HC := Aside0.mk hCa
  have HD := Aside0.mk hda
  have HL := Aside0.mk hca
  have HZ := Aside0.mk (show (if (!na) = true then - val la else val la) = -a by rw [hza]; cases na <;> simp)
  clear hCa hca hda hna hza hpa ha
  go_enter Tryd.func34, Tryd.ntmps34
  go_wp2_with fail
  obtain ⟨x2, x4, hB⟩ := blocks2 w #[.bool na, .slice A la.length ca] #[.bool false, .slice none 0 0] 55 55
  generalize (w.alloc (.cells #[.bool na, .slice A la.length ca] 55)).alloc (.cells #[.bool false, .slice none 0 0] 55) = w1 at x2 x4 hB ⊢
  obtain ⟨b4, h4⟩ : ∃ b, b = w.heap.size + 1 := ⟨_, rfl⟩
  have g4 : w.heap.size ≤ b4 := by omega
  rw [← h4] at x4 ⊢
  have HX4 := Aside0.mk x4
  have HB := Aside0.mk hB
  clear x2 x4 hB h4
  refine (cut_any w1 (!na) A ca la (Kd.C_below HC.out HB.out) HL.out HD.out (by omega)).mono ?_
  rintro e w2 ⟨v, rfl, hv, hb⟩
  rw [HZ.out] at hv
  replace HX4 := Aside0.mk (blk_below HX4.out hb)
  replace HB := Aside0.mk (below_step HB.out hb)
  clear hb
  obtain ⟨ng, A, n, c, rfl⟩ := hv.form
  have HV := Aside0.mk hv
  have c0 : w2.cell? ⟨b4, 0, none⟩ = some (.bool false) := (blk_cell HX4.out 0).trans rfl
  have c1 : w2.cell? ⟨b4, 1, none⟩ = some (.slice none 0 0) := (blk_cell HX4.out 1).trans rfl
  have f0 := blk_frozen HX4.out 0
  have f1 := blk_frozen HX4.out 1
  clear hv
  go_wp2_with fail
  obtain ⟨r0, r1, hv, hB⟩ := store_big HX4.out g4 HB.out HV.out
  generalize (w2.setCell ⟨b4, 0, none⟩ (.bool ng)).setCell ⟨b4, 1, none⟩ (.slice A n c) = W at r0 r1 hv hB ⊢
  clear c0 c1 f0 f1
  refine ⟨rfl, .agg #[.bool ng, .slice A n c], ?_, _, rfl, hv, hB⟩
  simp [results, Tryd.results34, go_sem, r0, r1]

set_option maxRecDepth 100000 in
set_option maxHeartbeats 4000000 in
theorem add_any (w : World) (va vb : Value) (a b : Int) (hva : IsBig w va a) (hvb : IsBig w vb b) (ha : Small a) (hb : Small b) :
    Calls Tryd.prog 38 #[va, vb] w fun e w' => ∃ v, e = .returned v ∧ IsBig w' v (a + b) ∧ Below w.heap.size w w' := by
  obtain ⟨na, la, A, ca, rfl, hCa, hca, hda, hna, hza, hpa⟩ := hva
  obtain ⟨nb, lb, B, cb, rfl, hCb, hcb, hdb, hnb, hzb, hpb⟩ := hvb
  have hla : la.length ≤ 5 := big_len hda hna (by unfold Small at ha; cases na <;> simp at hza <;> omega)
  have hlb : lb.length ≤ 5 := big_len hdb hnb (by unfold Small at hb; cases nb <;> simp at hzb <;> omega)
  have HCA := Aside0.mk hCa
  have HDA := Aside0.mk hda
  have HLA := Aside0.mk hca
  have HNA := Aside0.mk hna
  have HZA := Aside0.mk hza
  have HPA := Aside0.mk hpa
  have HCB := Aside0.mk hCb
  have HDB := Aside0.mk hdb
  have HLB := Aside0.mk hcb
  have HNB := Aside0.mk hnb
  have HZB := Aside0.mk hzb
  have HPB := Aside0.mk hpb
  clear hCa hca hda hna hza hpa hCb hcb hdb hnb hzb hpb ha hb
  go_enter Tryd.func38, Tryd.ntmps38
  go_upto_region 1 with fail
  obtain ⟨x2, x3, x4, hB⟩ := blocks3 w #[.bool na, .slice A la.length ca] #[.bool nb, .slice B lb.length cb] #[.bool false, .slice none 0 0] 55 55 55
  generalize ((w.alloc (.cells #[.bool na, .slice A la.length ca] 55)).alloc (.cells #[.bool nb, .slice B lb.length cb] 55)).alloc (.cells #[.bool false, .slice none 0 0] 55) = w1 at x2 x3 x4 hB ⊢
  obtain ⟨b2, h2⟩ : ∃ b, b = w.heap.size := ⟨_, rfl⟩
  obtain ⟨b3, h3⟩ : ∃ b, b = w.heap.size + 1 := ⟨_, rfl⟩
  obtain ⟨b4, h4⟩ : ∃ b, b = w.heap.size + 1 + 1 := ⟨_, rfl⟩
  have g4 : w.heap.size ≤ b4 := by omega
  have d24 : b2 ≠ b4 := by omega
  have d34 : b3 ≠ b4 := by omega
  rw [← h4, ← h3, ← h2]
  rw [← h4] at x4
  rw [← h3] at x3
  rw [← h2] at x2
  have HX2 := Aside0.mk x2
  have HX3 := Aside0.mk x3
  have HX4 := Aside0.mk x4
  have HB := Aside0.mk hB
  clear x2 x3 x4 hB h2 h3 h4
  have x20 : w1.cell? ⟨b2, 0, none⟩ = some (.bool na) := (blk_cell HX2.out 0).trans rfl
  have x21 : w1.cell? ⟨b2, 1, none⟩ = some (.slice A la.length ca) := (blk_cell HX2.out 1).trans rfl
  have x30 : w1.cell? ⟨b3, 0, none⟩ = some (.bool nb) := (blk_cell HX3.out 0).trans rfl
  have x31 : w1.cell? ⟨b3, 1, none⟩ = some (.slice B lb.length cb) := (blk_cell HX3.out 1).trans rfl
  cases na with
  | false =>
    cases nb with
    | false =>
      go_upto_region 2 with fail
      clear x20 x21 x30 x31
      obtain ⟨r, hf, hdr, hlr0, hvr⟩ := sum_f la lb HDA.out HDB.out (by omega) (by omega)
      have hlr : r.length ≤ 2000 := by omega
      have HF := Aside0.mk hf
      have HDR := Aside0.mk hdr
      clear hf hdr
      have HVR := Aside0.mk hvr
      clear hvr
      refine start_ (n := 9) (S := fun w' => w'.cell? ⟨b2, 0, none⟩ = some (.bool false) ∧ w'.cell? ⟨b2, 1, none⟩ = some (.slice A la.length ca) ∧ w'.cell? ⟨b3, 0, none⟩ = some (.bool false) ∧ w'.cell? ⟨b3, 1, none⟩ = some (.slice B lb.length cb)) (ds := []) #[false, false, false, false, false, false, false, false, false] (by kernel_rfl) rfl rfl ⟨(blk_cell HX2.out 0).trans rfl, (blk_cell HX2.out 1).trans rfl, (blk_cell HX3.out 0).trans rfl, (blk_cell HX3.out 1).trans rfl⟩ (fun hHeld => ?_)
      replace HX2 := Aside0.mk (blk_drew HX2.out)
      replace HX3 := Aside0.mk (blk_drew HX3.out)
      replace HX4 := Aside0.mk (blk_drew HX4.out)
      replace HB := Aside0.mk (below_drew HB.out)
      generalize w1.drew = Wd at HX2 HX3 HX4 HB hHeld ⊢
      refine pure_ (i := 0) (N := (some 10)) (v := ?_) (a' := ?_) #[true, false, false, false, false, false, false, false, false] rfl rfl (by kernel_rfl) (fun _ _ _ h => h) (Or.inl ⟨by rfl, ?_⟩) ?_ ?_
      rotate_left
      · intro w'
        go_simp
        with_reducible rfl
      rotate_left
      · simp only [Act.put, List.setIfInBounds_toArray, List.set_cons_zero, List.set_cons_succ, i64_w, i32_w]
        rfl
      refine take_ (i := 1) (N := (some 11)) (v := ?_) (a' := ?_) #[true, true, false, false, false, false, false, false, false] rfl rfl (by kernel_rfl) (fun _ _ _ h => h) (Or.inl ⟨by rfl, ?_⟩) hHeld ?_ ?_
      rotate_left
      · rintro w' ⟨s0, s1, s2, s3⟩
        go_simp
        with_reducible rfl
      rotate_left
      · simp only [Act.put, List.setIfInBounds_toArray, List.set_cons_zero, List.set_cons_succ, i64_w, i32_w]
        rfl
      refine pure_ (i := 2) (N := (some 12)) (v := ?_) (a' := ?_) #[true, true, true, false, false, false, false, false, false] rfl rfl (by kernel_rfl) (fun _ _ _ h => h) (Or.inl ⟨by rfl, ?_⟩) ?_ ?_
      rotate_left
      · intro w'
        go_simp
        with_reducible rfl
      rotate_left
      · simp only [Act.put, List.setIfInBounds_toArray, List.set_cons_zero, List.set_cons_succ, i64_w, i32_w]
        rfl
      refine take_ (i := 3) (N := (some 13)) (v := ?_) (a' := ?_) #[true, true, true, true, false, false, false, false, false] rfl rfl (by kernel_rfl) (fun _ _ _ h => h) (Or.inl ⟨by rfl, ?_⟩) hHeld ?_ ?_
      rotate_left
      · rintro w' ⟨s0, s1, s2, s3⟩
        go_simp
        with_reducible rfl
      rotate_left
      · simp only [Act.put, List.setIfInBounds_toArray, List.set_cons_zero, List.set_cons_succ, i64_w, i32_w]
        rfl
      refine pure_ (i := 4) (N := (some 14)) (v := ?_) (a' := ?_) #[true, true, true, true, true, false, false, false, false] rfl rfl (by kernel_rfl) (fun _ _ _ h => h) (Or.inl ⟨by rfl, ?_⟩) ?_ ?_
      rotate_left
      · intro w'
        go_simp
        with_reducible rfl
      rotate_left
      · simp only [Act.put, List.setIfInBounds_toArray, List.set_cons_zero, List.set_cons_succ, i64_w, i32_w]
        rfl
      refine take_ (i := 5) (N := (some 15)) (v := ?_) (a' := ?_) #[true, true, true, true, true, true, false, false, false] rfl rfl (by kernel_rfl) (fun _ _ _ h => h) (Or.inl ⟨by rfl, ?_⟩) hHeld ?_ ?_
      rotate_left
      · rintro w' ⟨s0, s1, s2, s3⟩
        go_simp
        with_reducible rfl
      rotate_left
      · simp only [Act.put, List.setIfInBounds_toArray, List.set_cons_zero, List.set_cons_succ, i64_w, i32_w]
        rfl
      refine one_ (i := 6) (N := (some 16)) #[true, true, true, true, true, true, true, false, false] rfl rfl (by kernel_rfl) (by decide) (fun K hK => ?_)
      refine goes_ Tryd.func30 (by kernel_rfl) rfl #[.slice A la.length ca, .slice B lb.length cb] (by rfl) rfl rfl (by (try simp only [List.map_toArray, List.map_cons, List.map_nil]); first | done | rfl) ?_
      refine (aneroidref01_sum.calls 2004 A ca la B cb lb r Wd (Kd.C_below HCA.out HB.out) HLA.out (Kd.C_below HCB.out HB.out) HLB.out HF.out).mono ?_
      rintro e We ⟨v0, rfl, ho, hb⟩
      replace HX2 := Aside0.mk (blk_below HX2.out hb)
      replace HX3 := Aside0.mk (blk_below HX3.out hb)
      replace HX4 := Aside0.mk (blk_below HX4.out hb)
      replace HB := Aside0.mk (below_step HB.out hb)
      have HO := Aside0.mk ho
      clear ho
      clear hb hHeld
      refine ⟨_, rfl, ?_⟩
      refine hK.out _ _ ⟨(blk_cell HX2.out 0).trans rfl, (blk_cell HX2.out 1).trans rfl, (blk_cell HX3.out 0).trans rfl, (blk_cell HX3.out 1).trans rfl⟩ (fun hHeld => ?_)
      clear hK K
      refine norm_ (a' := ?_) ?_ ?_
      rotate_left
      · show Act.put _ (some 16) _ = _
        simp only [Act.put, List.setIfInBounds_toArray, List.set_cons_zero, List.set_cons_succ, i64_w, i32_w]
        rfl
      obtain ⟨A6, c6, rfl⟩ := Kd.R_slice HO.out
      refine one_ (i := 7) (N := (some 17)) #[true, true, true, true, true, true, true, true, false] rfl rfl (by kernel_rfl) (by decide) (fun K hK => ?_)
      refine goes_ Tryd.func31 (by kernel_rfl) rfl #[.bool false, .slice A6 r.length c6] (by rfl) rfl rfl (by (try simp only [List.map_toArray, List.map_cons, List.map_nil]); first | done | rfl) ?_
      refine (cut_any We false A6 c6 r (Kd.R_reads' HO.out).2.2 (Kd.R_reads' HO.out).2.1 HDR.out hlr).mono ?_
      rintro e Wf ⟨v1, rfl, hv, hb⟩
      replace HX2 := Aside0.mk (blk_below HX2.out hb)
      replace HX3 := Aside0.mk (blk_below HX3.out hb)
      replace HX4 := Aside0.mk (blk_below HX4.out hb)
      replace HB := Aside0.mk (below_step HB.out hb)
      have HV := Aside0.mk hv
      clear hv HO
      clear hb hHeld
      refine ⟨_, rfl, ?_⟩
      refine hK.out _ _ ⟨(blk_cell HX2.out 0).trans rfl, (blk_cell HX2.out 1).trans rfl, (blk_cell HX3.out 0).trans rfl, (blk_cell HX3.out 1).trans rfl⟩ (fun hHeld => ?_)
      clear hK K
      refine norm_ (a' := ?_) ?_ ?_
      rotate_left
      · show Act.put _ (some 17) _ = _
        simp only [Act.put, List.setIfInBounds_toArray, List.set_cons_zero, List.set_cons_succ, i64_w, i32_w]
        rfl
      obtain ⟨ng, A7, n7, c7, rfl⟩ := HV.out.form
      have c0 : Wf.cell? ⟨b4, 0, none⟩ = some (.bool false) := (blk_cell HX4.out 0).trans rfl
      have c1 : Wf.cell? ⟨b4, 1, none⟩ = some (.slice none 0 0) := (blk_cell HX4.out 1).trans rfl
      have f0 := blk_frozen HX4.out 0
      have f1 := blk_frozen HX4.out 1
      refine one_ (i := 8) (N := none) #[true, true, true, true, true, true, true, true, true] rfl rfl (by kernel_rfl) (by decide) (fun K hK => ?_)
      refine skip_ (w1 := (Wf.setCell ⟨b4, 0, none⟩ (.bool ng)).setCell ⟨b4, 1, none⟩ (.slice A7 n7 c7)) (by rfl) rfl (by first | (go_simp; done) | (go_simp; rfl)) ?_
      obtain ⟨r0, r1, hv2, hB2⟩ := store_big HX4.out g4 HB.out HV.out
      replace HX2 := Aside0.mk (blk_far (blk_far HX2.out (p := ⟨b4, 0, none⟩) (by assumption) (.bool ng)) (p := ⟨b4, 1, none⟩) (by assumption) (.slice A7 n7 c7))
      replace HX3 := Aside0.mk (blk_far (blk_far HX3.out (p := ⟨b4, 0, none⟩) (by assumption) (.bool ng)) (p := ⟨b4, 1, none⟩) (by assumption) (.slice A7 n7 c7))
      clear HX4 HB c0 c1 f0 f1 hHeld
      generalize (Wf.setCell ⟨b4, 0, none⟩ (.bool ng)).setCell ⟨b4, 1, none⟩ (.slice A7 n7 c7) = WS at r0 r1 hv2 hB2 HX2 HX3 ⊢
      refine hK.out _ _ ⟨(blk_cell HX2.out 0).trans rfl, (blk_cell HX2.out 1).trans rfl, (blk_cell HX3.out 0).trans rfl, (blk_cell HX3.out 1).trans rfl⟩ (fun hHeld => ?_)
      clear hK K
      refine done_ (by kernel_rfl) ?_
      replace hv2 : IsBig WS (.agg #[.bool ng, .slice A7 n7 c7]) (a + b) := by
        rw [HZA.out, HZB.out]
        have := HVR.out
        rw [show (if (false : Bool) = true then - val r else val r) = (if (false : Bool) = true then - val la else val la) + (if (false : Bool) = true then - val lb else val lb) by simp; omega] at hv2
        exact hv2
      go_wp2_with fail
      refine ⟨rfl, .agg #[.bool ng, .slice A7 n7 c7], ?_, _, rfl, hv2, hB2⟩
      simp [results, Tryd.results38, go_sem, r0, r1]
    | true =>
      go_wp2_with fail
      refine (aneroidref01_less.calls (la.length + 1) A ca la B cb lb (decide (val la < val lb)) w1 (Kd.C_below HCA.out HB.out) HLA.out (Kd.C_below HCB.out HB.out) HLB.out (less_f la lb HDA.out HDB.out HNA.out HNB.out (by omega) (by omega))).mono ?_
      rintro e w3 ⟨rfl, hd⟩
      have hb := hd.below
      clear hd x20 x21 x30 x31
      replace HX2 := Aside0.mk (blk_below HX2.out hb)
      replace HX3 := Aside0.mk (blk_below HX3.out hb)
      replace HX4 := Aside0.mk (blk_below HX4.out hb)
      replace HB := Aside0.mk (below_step HB.out hb)
      clear hb
      have x20 : w3.cell? ⟨b2, 0, none⟩ = some (.bool false) := (blk_cell HX2.out 0).trans rfl
      have x21 : w3.cell? ⟨b2, 1, none⟩ = some (.slice A la.length ca) := (blk_cell HX2.out 1).trans rfl
      have x30 : w3.cell? ⟨b3, 0, none⟩ = some (.bool true) := (blk_cell HX3.out 0).trans rfl
      have x31 : w3.cell? ⟨b3, 1, none⟩ = some (.slice B lb.length cb) := (blk_cell HX3.out 1).trans rfl
      have hlen1 : la.length ≤ lb.length ∨ lb.length < la.length := Nat.lt_or_ge lb.length la.length |>.symm
      by_cases hlt : val la < val lb
      · rw [decide_eq_true hlt]
        have hll : la.length ≤ lb.length := by
          rcases hlen1 with h | h
          · exact h
          · have := len_lt HDB.out HDA.out HNA.out h
            omega
        clear hlen1
        go_upto_region 4 with fail
        clear x20 x21 x30 x31
        obtain ⟨r, hf, hdr, hlr0, hvr⟩ := rest_f lb la HDB.out HDA.out hll (by omega) (by omega)
        have hlr : r.length ≤ 2000 := by omega
        have HF := Aside0.mk hf
        have HDR := Aside0.mk hdr
        clear hf hdr
        have HVR := Aside0.mk hvr
        clear hvr
        refine start_ (n := 9) (S := fun w' => w'.cell? ⟨b2, 0, none⟩ = some (.bool false) ∧ w'.cell? ⟨b2, 1, none⟩ = some (.slice A la.length ca) ∧ w'.cell? ⟨b3, 0, none⟩ = some (.bool true) ∧ w'.cell? ⟨b3, 1, none⟩ = some (.slice B lb.length cb)) (ds := []) #[false, false, false, false, false, false, false, false, false] (by kernel_rfl) rfl rfl ⟨(blk_cell HX2.out 0).trans rfl, (blk_cell HX2.out 1).trans rfl, (blk_cell HX3.out 0).trans rfl, (blk_cell HX3.out 1).trans rfl⟩ (fun hHeld => ?_)
        replace HX2 := Aside0.mk (blk_drew HX2.out)
        replace HX3 := Aside0.mk (blk_drew HX3.out)
        replace HX4 := Aside0.mk (blk_drew HX4.out)
        replace HB := Aside0.mk (below_drew HB.out)
        generalize w3.drew = Wd at HX2 HX3 HX4 HB hHeld ⊢
        refine pure_ (i := 0) (N := (some 23)) (v := ?_) (a' := ?_) #[true, false, false, false, false, false, false, false, false] rfl rfl (by kernel_rfl) (fun _ _ _ h => h) (Or.inl ⟨by rfl, ?_⟩) ?_ ?_
        rotate_left
        · intro w'
          go_simp
          with_reducible rfl
        rotate_left
        · simp only [Act.put, List.setIfInBounds_toArray, List.set_cons_zero, List.set_cons_succ, i64_w, i32_w]
          rfl
        refine take_ (i := 1) (N := (some 24)) (v := ?_) (a' := ?_) #[true, true, false, false, false, false, false, false, false] rfl rfl (by kernel_rfl) (fun _ _ _ h => h) (Or.inl ⟨by rfl, ?_⟩) hHeld ?_ ?_
        rotate_left
        · rintro w' ⟨s0, s1, s2, s3⟩
          go_simp
          with_reducible rfl
        rotate_left
        · simp only [Act.put, List.setIfInBounds_toArray, List.set_cons_zero, List.set_cons_succ, i64_w, i32_w]
          rfl
        refine pure_ (i := 2) (N := (some 25)) (v := ?_) (a' := ?_) #[true, true, true, false, false, false, false, false, false] rfl rfl (by kernel_rfl) (fun _ _ _ h => h) (Or.inl ⟨by rfl, ?_⟩) ?_ ?_
        rotate_left
        · intro w'
          go_simp
          with_reducible rfl
        rotate_left
        · simp only [Act.put, List.setIfInBounds_toArray, List.set_cons_zero, List.set_cons_succ, i64_w, i32_w]
          rfl
        refine take_ (i := 3) (N := (some 26)) (v := ?_) (a' := ?_) #[true, true, true, true, false, false, false, false, false] rfl rfl (by kernel_rfl) (fun _ _ _ h => h) (Or.inl ⟨by rfl, ?_⟩) hHeld ?_ ?_
        rotate_left
        · rintro w' ⟨s0, s1, s2, s3⟩
          go_simp
          with_reducible rfl
        rotate_left
        · simp only [Act.put, List.setIfInBounds_toArray, List.set_cons_zero, List.set_cons_succ, i64_w, i32_w]
          rfl
        refine pure_ (i := 4) (N := (some 27)) (v := ?_) (a' := ?_) #[true, true, true, true, true, false, false, false, false] rfl rfl (by kernel_rfl) (fun _ _ _ h => h) (Or.inl ⟨by rfl, ?_⟩) ?_ ?_
        rotate_left
        · intro w'
          go_simp
          with_reducible rfl
        rotate_left
        · simp only [Act.put, List.setIfInBounds_toArray, List.set_cons_zero, List.set_cons_succ, i64_w, i32_w]
          rfl
        refine take_ (i := 5) (N := (some 28)) (v := ?_) (a' := ?_) #[true, true, true, true, true, true, false, false, false] rfl rfl (by kernel_rfl) (fun _ _ _ h => h) (Or.inl ⟨by rfl, ?_⟩) hHeld ?_ ?_
        rotate_left
        · rintro w' ⟨s0, s1, s2, s3⟩
          go_simp
          with_reducible rfl
        rotate_left
        · simp only [Act.put, List.setIfInBounds_toArray, List.set_cons_zero, List.set_cons_succ, i64_w, i32_w]
          rfl
        refine one_ (i := 6) (N := (some 29)) #[true, true, true, true, true, true, true, false, false] rfl rfl (by kernel_rfl) (by decide) (fun K hK => ?_)
        refine goes_ Tryd.func40 (by kernel_rfl) rfl #[.slice B lb.length cb, .slice A la.length ca] (by rfl) rfl rfl (by (try simp only [List.map_toArray, List.map_cons, List.map_nil]); first | done | rfl) ?_
        refine (aneroidref01_rest.calls (lb.length + 1) B cb lb A ca la r Wd (Kd.C_below HCB.out HB.out) HLB.out (Kd.C_below HCA.out HB.out) HLA.out HF.out).mono ?_
        rintro e We ⟨v0, rfl, ho, hb⟩
        replace HX2 := Aside0.mk (blk_below HX2.out hb)
        replace HX3 := Aside0.mk (blk_below HX3.out hb)
        replace HX4 := Aside0.mk (blk_below HX4.out hb)
        replace HB := Aside0.mk (below_step HB.out hb)
        have HO := Aside0.mk ho
        clear ho
        clear hb hHeld
        refine ⟨_, rfl, ?_⟩
        refine hK.out _ _ ⟨(blk_cell HX2.out 0).trans rfl, (blk_cell HX2.out 1).trans rfl, (blk_cell HX3.out 0).trans rfl, (blk_cell HX3.out 1).trans rfl⟩ (fun hHeld => ?_)
        clear hK K
        refine norm_ (a' := ?_) ?_ ?_
        rotate_left
        · show Act.put _ (some 29) _ = _
          simp only [Act.put, List.setIfInBounds_toArray, List.set_cons_zero, List.set_cons_succ, i64_w, i32_w]
          rfl
        obtain ⟨A6, c6, rfl⟩ := Kd.R_slice HO.out
        refine one_ (i := 7) (N := (some 30)) #[true, true, true, true, true, true, true, true, false] rfl rfl (by kernel_rfl) (by decide) (fun K hK => ?_)
        refine goes_ Tryd.func31 (by kernel_rfl) rfl #[.bool true, .slice A6 r.length c6] (by rfl) rfl rfl (by (try simp only [List.map_toArray, List.map_cons, List.map_nil]); first | done | rfl) ?_
        refine (cut_any We true A6 c6 r (Kd.R_reads' HO.out).2.2 (Kd.R_reads' HO.out).2.1 HDR.out hlr).mono ?_
        rintro e Wf ⟨v1, rfl, hv, hb⟩
        replace HX2 := Aside0.mk (blk_below HX2.out hb)
        replace HX3 := Aside0.mk (blk_below HX3.out hb)
        replace HX4 := Aside0.mk (blk_below HX4.out hb)
        replace HB := Aside0.mk (below_step HB.out hb)
        have HV := Aside0.mk hv
        clear hv HO
        clear hb hHeld
        refine ⟨_, rfl, ?_⟩
        refine hK.out _ _ ⟨(blk_cell HX2.out 0).trans rfl, (blk_cell HX2.out 1).trans rfl, (blk_cell HX3.out 0).trans rfl, (blk_cell HX3.out 1).trans rfl⟩ (fun hHeld => ?_)
        clear hK K
        refine norm_ (a' := ?_) ?_ ?_
        rotate_left
        · show Act.put _ (some 30) _ = _
          simp only [Act.put, List.setIfInBounds_toArray, List.set_cons_zero, List.set_cons_succ, i64_w, i32_w]
          rfl
        obtain ⟨ng, A7, n7, c7, rfl⟩ := HV.out.form
        have c0 : Wf.cell? ⟨b4, 0, none⟩ = some (.bool false) := (blk_cell HX4.out 0).trans rfl
        have c1 : Wf.cell? ⟨b4, 1, none⟩ = some (.slice none 0 0) := (blk_cell HX4.out 1).trans rfl
        have f0 := blk_frozen HX4.out 0
        have f1 := blk_frozen HX4.out 1
        refine one_ (i := 8) (N := none) #[true, true, true, true, true, true, true, true, true] rfl rfl (by kernel_rfl) (by decide) (fun K hK => ?_)
        refine skip_ (w1 := (Wf.setCell ⟨b4, 0, none⟩ (.bool ng)).setCell ⟨b4, 1, none⟩ (.slice A7 n7 c7)) (by rfl) rfl (by first | (go_simp; done) | (go_simp; rfl)) ?_
        obtain ⟨r0, r1, hv2, hB2⟩ := store_big HX4.out g4 HB.out HV.out
        replace HX2 := Aside0.mk (blk_far (blk_far HX2.out (p := ⟨b4, 0, none⟩) (by assumption) (.bool ng)) (p := ⟨b4, 1, none⟩) (by assumption) (.slice A7 n7 c7))
        replace HX3 := Aside0.mk (blk_far (blk_far HX3.out (p := ⟨b4, 0, none⟩) (by assumption) (.bool ng)) (p := ⟨b4, 1, none⟩) (by assumption) (.slice A7 n7 c7))
        clear HX4 HB c0 c1 f0 f1 hHeld
        generalize (Wf.setCell ⟨b4, 0, none⟩ (.bool ng)).setCell ⟨b4, 1, none⟩ (.slice A7 n7 c7) = WS at r0 r1 hv2 hB2 HX2 HX3 ⊢
        refine hK.out _ _ ⟨(blk_cell HX2.out 0).trans rfl, (blk_cell HX2.out 1).trans rfl, (blk_cell HX3.out 0).trans rfl, (blk_cell HX3.out 1).trans rfl⟩ (fun hHeld => ?_)
        clear hK K
        refine done_ (by kernel_rfl) ?_
        replace hv2 : IsBig WS (.agg #[.bool ng, .slice A7 n7 c7]) (a + b) := by
          rw [HZA.out, HZB.out]
          have := HVR.out
          rw [show (if (true : Bool) = true then - val r else val r) = (if (false : Bool) = true then - val la else val la) + (if (true : Bool) = true then - val lb else val lb) by simp; omega] at hv2
          exact hv2
        go_wp2_with fail
        refine ⟨rfl, .agg #[.bool ng, .slice A7 n7 c7], ?_, _, rfl, hv2, hB2⟩
        simp [results, Tryd.results38, go_sem, r0, r1]
      · rw [decide_eq_false hlt]
        have hll : lb.length ≤ la.length := by
          rcases Nat.lt_or_ge la.length lb.length with h | h
          · have := len_lt HDA.out HDB.out HNB.out h
            omega
          · exact h
        clear hlen1
        go_upto_region 5 with fail
        clear x20 x21 x30 x31
        obtain ⟨r, hf, hdr, hlr0, hvr⟩ := rest_f la lb HDA.out HDB.out hll (by omega) (by omega)
        have hlr : r.length ≤ 2000 := by omega
        have HF := Aside0.mk hf
        have HDR := Aside0.mk hdr
        clear hf hdr
        have HVR := Aside0.mk hvr
        clear hvr
        refine start_ (n := 9) (S := fun w' => w'.cell? ⟨b2, 0, none⟩ = some (.bool false) ∧ w'.cell? ⟨b2, 1, none⟩ = some (.slice A la.length ca) ∧ w'.cell? ⟨b3, 0, none⟩ = some (.bool true) ∧ w'.cell? ⟨b3, 1, none⟩ = some (.slice B lb.length cb)) (ds := []) #[false, false, false, false, false, false, false, false, false] (by kernel_rfl) rfl rfl ⟨(blk_cell HX2.out 0).trans rfl, (blk_cell HX2.out 1).trans rfl, (blk_cell HX3.out 0).trans rfl, (blk_cell HX3.out 1).trans rfl⟩ (fun hHeld => ?_)
        replace HX2 := Aside0.mk (blk_drew HX2.out)
        replace HX3 := Aside0.mk (blk_drew HX3.out)
        replace HX4 := Aside0.mk (blk_drew HX4.out)
        replace HB := Aside0.mk (below_drew HB.out)
        generalize w3.drew = Wd at HX2 HX3 HX4 HB hHeld ⊢
        refine pure_ (i := 0) (N := (some 31)) (v := ?_) (a' := ?_) #[true, false, false, false, false, false, false, false, false] rfl rfl (by kernel_rfl) (fun _ _ _ h => h) (Or.inl ⟨by rfl, ?_⟩) ?_ ?_
        rotate_left
        · intro w'
          go_simp
          with_reducible rfl
        rotate_left
        · simp only [Act.put, List.setIfInBounds_toArray, List.set_cons_zero, List.set_cons_succ, i64_w, i32_w]
          rfl
        refine take_ (i := 1) (N := (some 32)) (v := ?_) (a' := ?_) #[true, true, false, false, false, false, false, false, false] rfl rfl (by kernel_rfl) (fun _ _ _ h => h) (Or.inl ⟨by rfl, ?_⟩) hHeld ?_ ?_
        rotate_left
        · rintro w' ⟨s0, s1, s2, s3⟩
          go_simp
          with_reducible rfl
        rotate_left
        · simp only [Act.put, List.setIfInBounds_toArray, List.set_cons_zero, List.set_cons_succ, i64_w, i32_w]
          rfl
        refine pure_ (i := 2) (N := (some 33)) (v := ?_) (a' := ?_) #[true, true, true, false, false, false, false, false, false] rfl rfl (by kernel_rfl) (fun _ _ _ h => h) (Or.inl ⟨by rfl, ?_⟩) ?_ ?_
        rotate_left
        · intro w'
          go_simp
          with_reducible rfl
        rotate_left
        · simp only [Act.put, List.setIfInBounds_toArray, List.set_cons_zero, List.set_cons_succ, i64_w, i32_w]
          rfl
        refine take_ (i := 3) (N := (some 34)) (v := ?_) (a' := ?_) #[true, true, true, true, false, false, false, false, false] rfl rfl (by kernel_rfl) (fun _ _ _ h => h) (Or.inl ⟨by rfl, ?_⟩) hHeld ?_ ?_
        rotate_left
        · rintro w' ⟨s0, s1, s2, s3⟩
          go_simp
          with_reducible rfl
        rotate_left
        · simp only [Act.put, List.setIfInBounds_toArray, List.set_cons_zero, List.set_cons_succ, i64_w, i32_w]
          rfl
        refine pure_ (i := 4) (N := (some 35)) (v := ?_) (a' := ?_) #[true, true, true, true, true, false, false, false, false] rfl rfl (by kernel_rfl) (fun _ _ _ h => h) (Or.inl ⟨by rfl, ?_⟩) ?_ ?_
        rotate_left
        · intro w'
          go_simp
          with_reducible rfl
        rotate_left
        · simp only [Act.put, List.setIfInBounds_toArray, List.set_cons_zero, List.set_cons_succ, i64_w, i32_w]
          rfl
        refine take_ (i := 5) (N := (some 36)) (v := ?_) (a' := ?_) #[true, true, true, true, true, true, false, false, false] rfl rfl (by kernel_rfl) (fun _ _ _ h => h) (Or.inl ⟨by rfl, ?_⟩) hHeld ?_ ?_
        rotate_left
        · rintro w' ⟨s0, s1, s2, s3⟩
          go_simp
          with_reducible rfl
        rotate_left
        · simp only [Act.put, List.setIfInBounds_toArray, List.set_cons_zero, List.set_cons_succ, i64_w, i32_w]
          rfl
        refine one_ (i := 6) (N := (some 37)) #[true, true, true, true, true, true, true, false, false] rfl rfl (by kernel_rfl) (by decide) (fun K hK => ?_)
        refine goes_ Tryd.func40 (by kernel_rfl) rfl #[.slice A la.length ca, .slice B lb.length cb] (by rfl) rfl rfl (by (try simp only [List.map_toArray, List.map_cons, List.map_nil]); first | done | rfl) ?_
        refine (aneroidref01_rest.calls (la.length + 1) A ca la B cb lb r Wd (Kd.C_below HCA.out HB.out) HLA.out (Kd.C_below HCB.out HB.out) HLB.out HF.out).mono ?_
        rintro e We ⟨v0, rfl, ho, hb⟩
        replace HX2 := Aside0.mk (blk_below HX2.out hb)
        replace HX3 := Aside0.mk (blk_below HX3.out hb)
        replace HX4 := Aside0.mk (blk_below HX4.out hb)
        replace HB := Aside0.mk (below_step HB.out hb)
        have HO := Aside0.mk ho
        clear ho
        clear hb hHeld
        refine ⟨_, rfl, ?_⟩
        refine hK.out _ _ ⟨(blk_cell HX2.out 0).trans rfl, (blk_cell HX2.out 1).trans rfl, (blk_cell HX3.out 0).trans rfl, (blk_cell HX3.out 1).trans rfl⟩ (fun hHeld => ?_)
        clear hK K
        refine norm_ (a' := ?_) ?_ ?_
        rotate_left
        · show Act.put _ (some 37) _ = _
          simp only [Act.put, List.setIfInBounds_toArray, List.set_cons_zero, List.set_cons_succ, i64_w, i32_w]
          rfl
        obtain ⟨A6, c6, rfl⟩ := Kd.R_slice HO.out
        refine one_ (i := 7) (N := (some 38)) #[true, true, true, true, true, true, true, true, false] rfl rfl (by kernel_rfl) (by decide) (fun K hK => ?_)
        refine goes_ Tryd.func31 (by kernel_rfl) rfl #[.bool false, .slice A6 r.length c6] (by rfl) rfl rfl (by (try simp only [List.map_toArray, List.map_cons, List.map_nil]); first | done | rfl) ?_
        refine (cut_any We false A6 c6 r (Kd.R_reads' HO.out).2.2 (Kd.R_reads' HO.out).2.1 HDR.out hlr).mono ?_
        rintro e Wf ⟨v1, rfl, hv, hb⟩
        replace HX2 := Aside0.mk (blk_below HX2.out hb)
        replace HX3 := Aside0.mk (blk_below HX3.out hb)
        replace HX4 := Aside0.mk (blk_below HX4.out hb)
        replace HB := Aside0.mk (below_step HB.out hb)
        have HV := Aside0.mk hv
        clear hv HO
        clear hb hHeld
        refine ⟨_, rfl, ?_⟩
        refine hK.out _ _ ⟨(blk_cell HX2.out 0).trans rfl, (blk_cell HX2.out 1).trans rfl, (blk_cell HX3.out 0).trans rfl, (blk_cell HX3.out 1).trans rfl⟩ (fun hHeld => ?_)
        clear hK K
        refine norm_ (a' := ?_) ?_ ?_
        rotate_left
        · show Act.put _ (some 38) _ = _
          simp only [Act.put, List.setIfInBounds_toArray, List.set_cons_zero, List.set_cons_succ, i64_w, i32_w]
          rfl
        obtain ⟨ng, A7, n7, c7, rfl⟩ := HV.out.form
        have c0 : Wf.cell? ⟨b4, 0, none⟩ = some (.bool false) := (blk_cell HX4.out 0).trans rfl
        have c1 : Wf.cell? ⟨b4, 1, none⟩ = some (.slice none 0 0) := (blk_cell HX4.out 1).trans rfl
        have f0 := blk_frozen HX4.out 0
        have f1 := blk_frozen HX4.out 1
        refine one_ (i := 8) (N := none) #[true, true, true, true, true, true, true, true, true] rfl rfl (by kernel_rfl) (by decide) (fun K hK => ?_)
        refine skip_ (w1 := (Wf.setCell ⟨b4, 0, none⟩ (.bool ng)).setCell ⟨b4, 1, none⟩ (.slice A7 n7 c7)) (by rfl) rfl (by first | (go_simp; done) | (go_simp; rfl)) ?_
        obtain ⟨r0, r1, hv2, hB2⟩ := store_big HX4.out g4 HB.out HV.out
        replace HX2 := Aside0.mk (blk_far (blk_far HX2.out (p := ⟨b4, 0, none⟩) (by assumption) (.bool ng)) (p := ⟨b4, 1, none⟩) (by assumption) (.slice A7 n7 c7))
        replace HX3 := Aside0.mk (blk_far (blk_far HX3.out (p := ⟨b4, 0, none⟩) (by assumption) (.bool ng)) (p := ⟨b4, 1, none⟩) (by assumption) (.slice A7 n7 c7))
        clear HX4 HB c0 c1 f0 f1 hHeld
        generalize (Wf.setCell ⟨b4, 0, none⟩ (.bool ng)).setCell ⟨b4, 1, none⟩ (.slice A7 n7 c7) = WS at r0 r1 hv2 hB2 HX2 HX3 ⊢
        refine hK.out _ _ ⟨(blk_cell HX2.out 0).trans rfl, (blk_cell HX2.out 1).trans rfl, (blk_cell HX3.out 0).trans rfl, (blk_cell HX3.out 1).trans rfl⟩ (fun hHeld => ?_)
        clear hK K
        refine done_ (by kernel_rfl) ?_
        replace hv2 : IsBig WS (.agg #[.bool ng, .slice A7 n7 c7]) (a + b) := by
          rw [HZA.out, HZB.out]
          have := HVR.out
          rw [show (if (false : Bool) = true then - val r else val r) = (if (false : Bool) = true then - val la else val la) + (if (true : Bool) = true then - val lb else val lb) by simp; omega] at hv2
          exact hv2
        go_wp2_with fail
        refine ⟨rfl, .agg #[.bool ng, .slice A7 n7 c7], ?_, _, rfl, hv2, hB2⟩
        simp [results, Tryd.results38, go_sem, r0, r1]
  | true =>
    cases nb with
    | false =>
      go_wp2_with fail
      refine (aneroidref01_less.calls (la.length + 1) A ca la B cb lb (decide (val la < val lb)) w1 (Kd.C_below HCA.out HB.out) HLA.out (Kd.C_below HCB.out HB.out) HLB.out (less_f la lb HDA.out HDB.out HNA.out HNB.out (by omega) (by omega))).mono ?_
      rintro e w3 ⟨rfl, hd⟩
      have hb := hd.below
      clear hd x20 x21 x30 x31
      replace HX2 := Aside0.mk (blk_below HX2.out hb)
      replace HX3 := Aside0.mk (blk_below HX3.out hb)
      replace HX4 := Aside0.mk (blk_below HX4.out hb)
      replace HB := Aside0.mk (below_step HB.out hb)
      clear hb
      have x20 : w3.cell? ⟨b2, 0, none⟩ = some (.bool true) := (blk_cell HX2.out 0).trans rfl
      have x21 : w3.cell? ⟨b2, 1, none⟩ = some (.slice A la.length ca) := (blk_cell HX2.out 1).trans rfl
      have x30 : w3.cell? ⟨b3, 0, none⟩ = some (.bool false) := (blk_cell HX3.out 0).trans rfl
      have x31 : w3.cell? ⟨b3, 1, none⟩ = some (.slice B lb.length cb) := (blk_cell HX3.out 1).trans rfl
      have hlen1 : la.length ≤ lb.length ∨ lb.length < la.length := Nat.lt_or_ge lb.length la.length |>.symm
      by_cases hlt : val la < val lb
      · rw [decide_eq_true hlt]
        have hll : la.length ≤ lb.length := by
          rcases hlen1 with h | h
          · exact h
          · have := len_lt HDB.out HDA.out HNA.out h
            omega
        clear hlen1
        go_upto_region 4 with fail
        clear x20 x21 x30 x31
        obtain ⟨r, hf, hdr, hlr0, hvr⟩ := rest_f lb la HDB.out HDA.out hll (by omega) (by omega)
        have hlr : r.length ≤ 2000 := by omega
        have HF := Aside0.mk hf
        have HDR := Aside0.mk hdr
        clear hf hdr
        have HVR := Aside0.mk hvr
        clear hvr
        refine start_ (n := 9) (S := fun w' => w'.cell? ⟨b2, 0, none⟩ = some (.bool true) ∧ w'.cell? ⟨b2, 1, none⟩ = some (.slice A la.length ca) ∧ w'.cell? ⟨b3, 0, none⟩ = some (.bool false) ∧ w'.cell? ⟨b3, 1, none⟩ = some (.slice B lb.length cb)) (ds := []) #[false, false, false, false, false, false, false, false, false] (by kernel_rfl) rfl rfl ⟨(blk_cell HX2.out 0).trans rfl, (blk_cell HX2.out 1).trans rfl, (blk_cell HX3.out 0).trans rfl, (blk_cell HX3.out 1).trans rfl⟩ (fun hHeld => ?_)
        replace HX2 := Aside0.mk (blk_drew HX2.out)
        replace HX3 := Aside0.mk (blk_drew HX3.out)
        replace HX4 := Aside0.mk (blk_drew HX4.out)
        replace HB := Aside0.mk (below_drew HB.out)
        generalize w3.drew = Wd at HX2 HX3 HX4 HB hHeld ⊢
        refine pure_ (i := 0) (N := (some 23)) (v := ?_) (a' := ?_) #[true, false, false, false, false, false, false, false, false] rfl rfl (by kernel_rfl) (fun _ _ _ h => h) (Or.inl ⟨by rfl, ?_⟩) ?_ ?_
        rotate_left
        · intro w'
          go_simp
          with_reducible rfl
        rotate_left
        · simp only [Act.put, List.setIfInBounds_toArray, List.set_cons_zero, List.set_cons_succ, i64_w, i32_w]
          rfl
        refine take_ (i := 1) (N := (some 24)) (v := ?_) (a' := ?_) #[true, true, false, false, false, false, false, false, false] rfl rfl (by kernel_rfl) (fun _ _ _ h => h) (Or.inl ⟨by rfl, ?_⟩) hHeld ?_ ?_
        rotate_left
        · rintro w' ⟨s0, s1, s2, s3⟩
          go_simp
          with_reducible rfl
        rotate_left
        · simp only [Act.put, List.setIfInBounds_toArray, List.set_cons_zero, List.set_cons_succ, i64_w, i32_w]
          rfl
        refine pure_ (i := 2) (N := (some 25)) (v := ?_) (a' := ?_) #[true, true, true, false, false, false, false, false, false] rfl rfl (by kernel_rfl) (fun _ _ _ h => h) (Or.inl ⟨by rfl, ?_⟩) ?_ ?_
        rotate_left
        · intro w'
          go_simp
          with_reducible rfl
        rotate_left
        · simp only [Act.put, List.setIfInBounds_toArray, List.set_cons_zero, List.set_cons_succ, i64_w, i32_w]
          rfl
        refine take_ (i := 3) (N := (some 26)) (v := ?_) (a' := ?_) #[true, true, true, true, false, false, false, false, false] rfl rfl (by kernel_rfl) (fun _ _ _ h => h) (Or.inl ⟨by rfl, ?_⟩) hHeld ?_ ?_
        rotate_left
        · rintro w' ⟨s0, s1, s2, s3⟩
          go_simp
          with_reducible rfl
        rotate_left
        · simp only [Act.put, List.setIfInBounds_toArray, List.set_cons_zero, List.set_cons_succ, i64_w, i32_w]
          rfl
        refine pure_ (i := 4) (N := (some 27)) (v := ?_) (a' := ?_) #[true, true, true, true, true, false, false, false, false] rfl rfl (by kernel_rfl) (fun _ _ _ h => h) (Or.inl ⟨by rfl, ?_⟩) ?_ ?_
        rotate_left
        · intro w'
          go_simp
          with_reducible rfl
        rotate_left
        · simp only [Act.put, List.setIfInBounds_toArray, List.set_cons_zero, List.set_cons_succ, i64_w, i32_w]
          rfl
        refine take_ (i := 5) (N := (some 28)) (v := ?_) (a' := ?_) #[true, true, true, true, true, true, false, false, false] rfl rfl (by kernel_rfl) (fun _ _ _ h => h) (Or.inl ⟨by rfl, ?_⟩) hHeld ?_ ?_
        rotate_left
        · rintro w' ⟨s0, s1, s2, s3⟩
          go_simp
          with_reducible rfl
        rotate_left
        · simp only [Act.put, List.setIfInBounds_toArray, List.set_cons_zero, List.set_cons_succ, i64_w, i32_w]
          rfl
        refine one_ (i := 6) (N := (some 29)) #[true, true, true, true, true, true, true, false, false] rfl rfl (by kernel_rfl) (by decide) (fun K hK => ?_)
        refine goes_ Tryd.func40 (by kernel_rfl) rfl #[.slice B lb.length cb, .slice A la.length ca] (by rfl) rfl rfl (by (try simp only [List.map_toArray, List.map_cons, List.map_nil]); first | done | rfl) ?_
        refine (aneroidref01_rest.calls (lb.length + 1) B cb lb A ca la r Wd (Kd.C_below HCB.out HB.out) HLB.out (Kd.C_below HCA.out HB.out) HLA.out HF.out).mono ?_
        rintro e We ⟨v0, rfl, ho, hb⟩
        replace HX2 := Aside0.mk (blk_below HX2.out hb)
        replace HX3 := Aside0.mk (blk_below HX3.out hb)
        replace HX4 := Aside0.mk (blk_below HX4.out hb)
        replace HB := Aside0.mk (below_step HB.out hb)
        have HO := Aside0.mk ho
        clear ho
        clear hb hHeld
        refine ⟨_, rfl, ?_⟩
        refine hK.out _ _ ⟨(blk_cell HX2.out 0).trans rfl, (blk_cell HX2.out 1).trans rfl, (blk_cell HX3.out 0).trans rfl, (blk_cell HX3.out 1).trans rfl⟩ (fun hHeld => ?_)
        clear hK K
        refine norm_ (a' := ?_) ?_ ?_
        rotate_left
        · show Act.put _ (some 29) _ = _
          simp only [Act.put, List.setIfInBounds_toArray, List.set_cons_zero, List.set_cons_succ, i64_w, i32_w]
          rfl
        obtain ⟨A6, c6, rfl⟩ := Kd.R_slice HO.out
        refine one_ (i := 7) (N := (some 30)) #[true, true, true, true, true, true, true, true, false] rfl rfl (by kernel_rfl) (by decide) (fun K hK => ?_)
        refine goes_ Tryd.func31 (by kernel_rfl) rfl #[.bool false, .slice A6 r.length c6] (by rfl) rfl rfl (by (try simp only [List.map_toArray, List.map_cons, List.map_nil]); first | done | rfl) ?_
        refine (cut_any We false A6 c6 r (Kd.R_reads' HO.out).2.2 (Kd.R_reads' HO.out).2.1 HDR.out hlr).mono ?_
        rintro e Wf ⟨v1, rfl, hv, hb⟩
        replace HX2 := Aside0.mk (blk_below HX2.out hb)
        replace HX3 := Aside0.mk (blk_below HX3.out hb)
        replace HX4 := Aside0.mk (blk_below HX4.out hb)
        replace HB := Aside0.mk (below_step HB.out hb)
        have HV := Aside0.mk hv
        clear hv HO
        clear hb hHeld
        refine ⟨_, rfl, ?_⟩
        refine hK.out _ _ ⟨(blk_cell HX2.out 0).trans rfl, (blk_cell HX2.out 1).trans rfl, (blk_cell HX3.out 0).trans rfl, (blk_cell HX3.out 1).trans rfl⟩ (fun hHeld => ?_)
        clear hK K
        refine norm_ (a' := ?_) ?_ ?_
        rotate_left
        · show Act.put _ (some 30) _ = _
          simp only [Act.put, List.setIfInBounds_toArray, List.set_cons_zero, List.set_cons_succ, i64_w, i32_w]
          rfl
        obtain ⟨ng, A7, n7, c7, rfl⟩ := HV.out.form
        have c0 : Wf.cell? ⟨b4, 0, none⟩ = some (.bool false) := (blk_cell HX4.out 0).trans rfl
        have c1 : Wf.cell? ⟨b4, 1, none⟩ = some (.slice none 0 0) := (blk_cell HX4.out 1).trans rfl
        have f0 := blk_frozen HX4.out 0
        have f1 := blk_frozen HX4.out 1
        refine one_ (i := 8) (N := none) #[true, true, true, true, true, true, true, true, true] rfl rfl (by kernel_rfl) (by decide) (fun K hK => ?_)
        refine skip_ (w1 := (Wf.setCell ⟨b4, 0, none⟩ (.bool ng)).setCell ⟨b4, 1, none⟩ (.slice A7 n7 c7)) (by rfl) rfl (by first | (go_simp; done) | (go_simp; rfl)) ?_
        obtain ⟨r0, r1, hv2, hB2⟩ := store_big HX4.out g4 HB.out HV.out
        replace HX2 := Aside0.mk (blk_far (blk_far HX2.out (p := ⟨b4, 0, none⟩) (by assumption) (.bool ng)) (p := ⟨b4, 1, none⟩) (by assumption) (.slice A7 n7 c7))
        replace HX3 := Aside0.mk (blk_far (blk_far HX3.out (p := ⟨b4, 0, none⟩) (by assumption) (.bool ng)) (p := ⟨b4, 1, none⟩) (by assumption) (.slice A7 n7 c7))
        clear HX4 HB c0 c1 f0 f1 hHeld
        generalize (Wf.setCell ⟨b4, 0, none⟩ (.bool ng)).setCell ⟨b4, 1, none⟩ (.slice A7 n7 c7) = WS at r0 r1 hv2 hB2 HX2 HX3 ⊢
        refine hK.out _ _ ⟨(blk_cell HX2.out 0).trans rfl, (blk_cell HX2.out 1).trans rfl, (blk_cell HX3.out 0).trans rfl, (blk_cell HX3.out 1).trans rfl⟩ (fun hHeld => ?_)
        clear hK K
        refine done_ (by kernel_rfl) ?_
        replace hv2 : IsBig WS (.agg #[.bool ng, .slice A7 n7 c7]) (a + b) := by
          rw [HZA.out, HZB.out]
          have := HVR.out
          rw [show (if (false : Bool) = true then - val r else val r) = (if (true : Bool) = true then - val la else val la) + (if (false : Bool) = true then - val lb else val lb) by simp; omega] at hv2
          exact hv2
        go_wp2_with fail
        refine ⟨rfl, .agg #[.bool ng, .slice A7 n7 c7], ?_, _, rfl, hv2, hB2⟩
        simp [results, Tryd.results38, go_sem, r0, r1]
      · rw [decide_eq_false hlt]
        have hll : lb.length ≤ la.length := by
          rcases Nat.lt_or_ge la.length lb.length with h | h
          · have := len_lt HDA.out HDB.out HNB.out h
            omega
          · exact h
        clear hlen1
        go_upto_region 5 with fail
        clear x20 x21 x30 x31
        obtain ⟨r, hf, hdr, hlr0, hvr⟩ := rest_f la lb HDA.out HDB.out hll (by omega) (by omega)
        have hlr : r.length ≤ 2000 := by omega
        have HF := Aside0.mk hf
        have HDR := Aside0.mk hdr
        clear hf hdr
        have HVR := Aside0.mk hvr
        clear hvr
        refine start_ (n := 9) (S := fun w' => w'.cell? ⟨b2, 0, none⟩ = some (.bool true) ∧ w'.cell? ⟨b2, 1, none⟩ = some (.slice A la.length ca) ∧ w'.cell? ⟨b3, 0, none⟩ = some (.bool false) ∧ w'.cell? ⟨b3, 1, none⟩ = some (.slice B lb.length cb)) (ds := []) #[false, false, false, false, false, false, false, false, false] (by kernel_rfl) rfl rfl ⟨(blk_cell HX2.out 0).trans rfl, (blk_cell HX2.out 1).trans rfl, (blk_cell HX3.out 0).trans rfl, (blk_cell HX3.out 1).trans rfl⟩ (fun hHeld => ?_)
        replace HX2 := Aside0.mk (blk_drew HX2.out)
        replace HX3 := Aside0.mk (blk_drew HX3.out)
        replace HX4 := Aside0.mk (blk_drew HX4.out)
        replace HB := Aside0.mk (below_drew HB.out)
        generalize w3.drew = Wd at HX2 HX3 HX4 HB hHeld ⊢
        refine pure_ (i := 0) (N := (some 31)) (v := ?_) (a' := ?_) #[true, false, false, false, false, false, false, false, false] rfl rfl (by kernel_rfl) (fun _ _ _ h => h) (Or.inl ⟨by rfl, ?_⟩) ?_ ?_
        rotate_left
        · intro w'
          go_simp
          with_reducible rfl
        rotate_left
        · simp only [Act.put, List.setIfInBounds_toArray, List.set_cons_zero, List.set_cons_succ, i64_w, i32_w]
          rfl
        refine take_ (i := 1) (N := (some 32)) (v := ?_) (a' := ?_) #[true, true, false, false, false, false, false, false, false] rfl rfl (by kernel_rfl) (fun _ _ _ h => h) (Or.inl ⟨by rfl, ?_⟩) hHeld ?_ ?_
        rotate_left
        · rintro w' ⟨s0, s1, s2, s3⟩
          go_simp
          with_reducible rfl
        rotate_left
        · simp only [Act.put, List.setIfInBounds_toArray, List.set_cons_zero, List.set_cons_succ, i64_w, i32_w]
          rfl
        refine pure_ (i := 2) (N := (some 33)) (v := ?_) (a' := ?_) #[true, true, true, false, false, false, false, false, false] rfl rfl (by kernel_rfl) (fun _ _ _ h => h) (Or.inl ⟨by rfl, ?_⟩) ?_ ?_
        rotate_left
        · intro w'
          go_simp
          with_reducible rfl
        rotate_left
        · simp only [Act.put, List.setIfInBounds_toArray, List.set_cons_zero, List.set_cons_succ, i64_w, i32_w]
          rfl
        refine take_ (i := 3) (N := (some 34)) (v := ?_) (a' := ?_) #[true, true, true, true, false, false, false, false, false] rfl rfl (by kernel_rfl) (fun _ _ _ h => h) (Or.inl ⟨by rfl, ?_⟩) hHeld ?_ ?_
        rotate_left
        · rintro w' ⟨s0, s1, s2, s3⟩
          go_simp
          with_reducible rfl
        rotate_left
        · simp only [Act.put, List.setIfInBounds_toArray, List.set_cons_zero, List.set_cons_succ, i64_w, i32_w]
          rfl
        refine pure_ (i := 4) (N := (some 35)) (v := ?_) (a' := ?_) #[true, true, true, true, true, false, false, false, false] rfl rfl (by kernel_rfl) (fun _ _ _ h => h) (Or.inl ⟨by rfl, ?_⟩) ?_ ?_
        rotate_left
        · intro w'
          go_simp
          with_reducible rfl
        rotate_left
        · simp only [Act.put, List.setIfInBounds_toArray, List.set_cons_zero, List.set_cons_succ, i64_w, i32_w]
          rfl
        refine take_ (i := 5) (N := (some 36)) (v := ?_) (a' := ?_) #[true, true, true, true, true, true, false, false, false] rfl rfl (by kernel_rfl) (fun _ _ _ h => h) (Or.inl ⟨by rfl, ?_⟩) hHeld ?_ ?_
        rotate_left
        · rintro w' ⟨s0, s1, s2, s3⟩
          go_simp
          with_reducible rfl
        rotate_left
        · simp only [Act.put, List.setIfInBounds_toArray, List.set_cons_zero, List.set_cons_succ, i64_w, i32_w]
          rfl
        refine one_ (i := 6) (N := (some 37)) #[true, true, true, true, true, true, true, false, false] rfl rfl (by kernel_rfl) (by decide) (fun K hK => ?_)
        refine goes_ Tryd.func40 (by kernel_rfl) rfl #[.slice A la.length ca, .slice B lb.length cb] (by rfl) rfl rfl (by (try simp only [List.map_toArray, List.map_cons, List.map_nil]); first | done | rfl) ?_
        refine (aneroidref01_rest.calls (la.length + 1) A ca la B cb lb r Wd (Kd.C_below HCA.out HB.out) HLA.out (Kd.C_below HCB.out HB.out) HLB.out HF.out).mono ?_
        rintro e We ⟨v0, rfl, ho, hb⟩
        replace HX2 := Aside0.mk (blk_below HX2.out hb)
        replace HX3 := Aside0.mk (blk_below HX3.out hb)
        replace HX4 := Aside0.mk (blk_below HX4.out hb)
        replace HB := Aside0.mk (below_step HB.out hb)
        have HO := Aside0.mk ho
        clear ho
        clear hb hHeld
        refine ⟨_, rfl, ?_⟩
        refine hK.out _ _ ⟨(blk_cell HX2.out 0).trans rfl, (blk_cell HX2.out 1).trans rfl, (blk_cell HX3.out 0).trans rfl, (blk_cell HX3.out 1).trans rfl⟩ (fun hHeld => ?_)
        clear hK K
        refine norm_ (a' := ?_) ?_ ?_
        rotate_left
        · show Act.put _ (some 37) _ = _
          simp only [Act.put, List.setIfInBounds_toArray, List.set_cons_zero, List.set_cons_succ, i64_w, i32_w]
          rfl
        obtain ⟨A6, c6, rfl⟩ := Kd.R_slice HO.out
        refine one_ (i := 7) (N := (some 38)) #[true, true, true, true, true, true, true, true, false] rfl rfl (by kernel_rfl) (by decide) (fun K hK => ?_)
        refine goes_ Tryd.func31 (by kernel_rfl) rfl #[.bool true, .slice A6 r.length c6] (by rfl) rfl rfl (by (try simp only [List.map_toArray, List.map_cons, List.map_nil]); first | done | rfl) ?_
        refine (cut_any We true A6 c6 r (Kd.R_reads' HO.out).2.2 (Kd.R_reads' HO.out).2.1 HDR.out hlr).mono ?_
        rintro e Wf ⟨v1, rfl, hv, hb⟩
        replace HX2 := Aside0.mk (blk_below HX2.out hb)
        replace HX3 := Aside0.mk (blk_below HX3.out hb)
        replace HX4 := Aside0.mk (blk_below HX4.out hb)
        replace HB := Aside0.mk (below_step HB.out hb)
        have HV := Aside0.mk hv
        clear hv HO
        clear hb hHeld
        refine ⟨_, rfl, ?_⟩
        refine hK.out _ _ ⟨(blk_cell HX2.out 0).trans rfl, (blk_cell HX2.out 1).trans rfl, (blk_cell HX3.out 0).trans rfl, (blk_cell HX3.out 1).trans rfl⟩ (fun hHeld => ?_)
        clear hK K
        refine norm_ (a' := ?_) ?_ ?_
        rotate_left
        · show Act.put _ (some 38) _ = _
          simp only [Act.put, List.setIfInBounds_toArray, List.set_cons_zero, List.set_cons_succ, i64_w, i32_w]
          rfl
        obtain ⟨ng, A7, n7, c7, rfl⟩ := HV.out.form
        have c0 : Wf.cell? ⟨b4, 0, none⟩ = some (.bool false) := (blk_cell HX4.out 0).trans rfl
        have c1 : Wf.cell? ⟨b4, 1, none⟩ = some (.slice none 0 0) := (blk_cell HX4.out 1).trans rfl
        have f0 := blk_frozen HX4.out 0
        have f1 := blk_frozen HX4.out 1
        refine one_ (i := 8) (N := none) #[true, true, true, true, true, true, true, true, true] rfl rfl (by kernel_rfl) (by decide) (fun K hK => ?_)
        refine skip_ (w1 := (Wf.setCell ⟨b4, 0, none⟩ (.bool ng)).setCell ⟨b4, 1, none⟩ (.slice A7 n7 c7)) (by rfl) rfl (by first | (go_simp; done) | (go_simp; rfl)) ?_
        obtain ⟨r0, r1, hv2, hB2⟩ := store_big HX4.out g4 HB.out HV.out
        replace HX2 := Aside0.mk (blk_far (blk_far HX2.out (p := ⟨b4, 0, none⟩) (by assumption) (.bool ng)) (p := ⟨b4, 1, none⟩) (by assumption) (.slice A7 n7 c7))
        replace HX3 := Aside0.mk (blk_far (blk_far HX3.out (p := ⟨b4, 0, none⟩) (by assumption) (.bool ng)) (p := ⟨b4, 1, none⟩) (by assumption) (.slice A7 n7 c7))
        clear HX4 HB c0 c1 f0 f1 hHeld
        generalize (Wf.setCell ⟨b4, 0, none⟩ (.bool ng)).setCell ⟨b4, 1, none⟩ (.slice A7 n7 c7) = WS at r0 r1 hv2 hB2 HX2 HX3 ⊢
        refine hK.out _ _ ⟨(blk_cell HX2.out 0).trans rfl, (blk_cell HX2.out 1).trans rfl, (blk_cell HX3.out 0).trans rfl, (blk_cell HX3.out 1).trans rfl⟩ (fun hHeld => ?_)
        clear hK K
        refine done_ (by kernel_rfl) ?_
        replace hv2 : IsBig WS (.agg #[.bool ng, .slice A7 n7 c7]) (a + b) := by
          rw [HZA.out, HZB.out]
          have := HVR.out
          rw [show (if (true : Bool) = true then - val r else val r) = (if (true : Bool) = true then - val la else val la) + (if (false : Bool) = true then - val lb else val lb) by simp; omega] at hv2
          exact hv2
        go_wp2_with fail
        refine ⟨rfl, .agg #[.bool ng, .slice A7 n7 c7], ?_, _, rfl, hv2, hB2⟩
        simp [results, Tryd.results38, go_sem, r0, r1]
    | true =>
      go_upto_region 2 with fail
      clear x20 x21 x30 x31
      obtain ⟨r, hf, hdr, hlr0, hvr⟩ := sum_f la lb HDA.out HDB.out (by omega) (by omega)
      have hlr : r.length ≤ 2000 := by omega
      have HF := Aside0.mk hf
      have HDR := Aside0.mk hdr
      clear hf hdr
      have HVR := Aside0.mk hvr
      clear hvr
      refine start_ (n := 9) (S := fun w' => w'.cell? ⟨b2, 0, none⟩ = some (.bool true) ∧ w'.cell? ⟨b2, 1, none⟩ = some (.slice A la.length ca) ∧ w'.cell? ⟨b3, 0, none⟩ = some (.bool true) ∧ w'.cell? ⟨b3, 1, none⟩ = some (.slice B lb.length cb)) (ds := []) #[false, false, false, false, false, false, false, false, false] (by kernel_rfl) rfl rfl ⟨(blk_cell HX2.out 0).trans rfl, (blk_cell HX2.out 1).trans rfl, (blk_cell HX3.out 0).trans rfl, (blk_cell HX3.out 1).trans rfl⟩ (fun hHeld => ?_)
      replace HX2 := Aside0.mk (blk_drew HX2.out)
      replace HX3 := Aside0.mk (blk_drew HX3.out)
      replace HX4 := Aside0.mk (blk_drew HX4.out)
      replace HB := Aside0.mk (below_drew HB.out)
      generalize w1.drew = Wd at HX2 HX3 HX4 HB hHeld ⊢
      refine pure_ (i := 0) (N := (some 10)) (v := ?_) (a' := ?_) #[true, false, false, false, false, false, false, false, false] rfl rfl (by kernel_rfl) (fun _ _ _ h => h) (Or.inl ⟨by rfl, ?_⟩) ?_ ?_
      rotate_left
      · intro w'
        go_simp
        with_reducible rfl
      rotate_left
      · simp only [Act.put, List.setIfInBounds_toArray, List.set_cons_zero, List.set_cons_succ, i64_w, i32_w]
        rfl
      refine take_ (i := 1) (N := (some 11)) (v := ?_) (a' := ?_) #[true, true, false, false, false, false, false, false, false] rfl rfl (by kernel_rfl) (fun _ _ _ h => h) (Or.inl ⟨by rfl, ?_⟩) hHeld ?_ ?_
      rotate_left
      · rintro w' ⟨s0, s1, s2, s3⟩
        go_simp
        with_reducible rfl
      rotate_left
      · simp only [Act.put, List.setIfInBounds_toArray, List.set_cons_zero, List.set_cons_succ, i64_w, i32_w]
        rfl
      refine pure_ (i := 2) (N := (some 12)) (v := ?_) (a' := ?_) #[true, true, true, false, false, false, false, false, false] rfl rfl (by kernel_rfl) (fun _ _ _ h => h) (Or.inl ⟨by rfl, ?_⟩) ?_ ?_
      rotate_left
      · intro w'
        go_simp
        with_reducible rfl
      rotate_left
      · simp only [Act.put, List.setIfInBounds_toArray, List.set_cons_zero, List.set_cons_succ, i64_w, i32_w]
        rfl
      refine take_ (i := 3) (N := (some 13)) (v := ?_) (a' := ?_) #[true, true, true, true, false, false, false, false, false] rfl rfl (by kernel_rfl) (fun _ _ _ h => h) (Or.inl ⟨by rfl, ?_⟩) hHeld ?_ ?_
      rotate_left
      · rintro w' ⟨s0, s1, s2, s3⟩
        go_simp
        with_reducible rfl
      rotate_left
      · simp only [Act.put, List.setIfInBounds_toArray, List.set_cons_zero, List.set_cons_succ, i64_w, i32_w]
        rfl
      refine pure_ (i := 4) (N := (some 14)) (v := ?_) (a' := ?_) #[true, true, true, true, true, false, false, false, false] rfl rfl (by kernel_rfl) (fun _ _ _ h => h) (Or.inl ⟨by rfl, ?_⟩) ?_ ?_
      rotate_left
      · intro w'
        go_simp
        with_reducible rfl
      rotate_left
      · simp only [Act.put, List.setIfInBounds_toArray, List.set_cons_zero, List.set_cons_succ, i64_w, i32_w]
        rfl
      refine take_ (i := 5) (N := (some 15)) (v := ?_) (a' := ?_) #[true, true, true, true, true, true, false, false, false] rfl rfl (by kernel_rfl) (fun _ _ _ h => h) (Or.inl ⟨by rfl, ?_⟩) hHeld ?_ ?_
      rotate_left
      · rintro w' ⟨s0, s1, s2, s3⟩
        go_simp
        with_reducible rfl
      rotate_left
      · simp only [Act.put, List.setIfInBounds_toArray, List.set_cons_zero, List.set_cons_succ, i64_w, i32_w]
        rfl
      refine one_ (i := 6) (N := (some 16)) #[true, true, true, true, true, true, true, false, false] rfl rfl (by kernel_rfl) (by decide) (fun K hK => ?_)
      refine goes_ Tryd.func30 (by kernel_rfl) rfl #[.slice A la.length ca, .slice B lb.length cb] (by rfl) rfl rfl (by (try simp only [List.map_toArray, List.map_cons, List.map_nil]); first | done | rfl) ?_
      refine (aneroidref01_sum.calls 2004 A ca la B cb lb r Wd (Kd.C_below HCA.out HB.out) HLA.out (Kd.C_below HCB.out HB.out) HLB.out HF.out).mono ?_
      rintro e We ⟨v0, rfl, ho, hb⟩
      replace HX2 := Aside0.mk (blk_below HX2.out hb)
      replace HX3 := Aside0.mk (blk_below HX3.out hb)
      replace HX4 := Aside0.mk (blk_below HX4.out hb)
      replace HB := Aside0.mk (below_step HB.out hb)
      have HO := Aside0.mk ho
      clear ho
      clear hb hHeld
      refine ⟨_, rfl, ?_⟩
      refine hK.out _ _ ⟨(blk_cell HX2.out 0).trans rfl, (blk_cell HX2.out 1).trans rfl, (blk_cell HX3.out 0).trans rfl, (blk_cell HX3.out 1).trans rfl⟩ (fun hHeld => ?_)
      clear hK K
      refine norm_ (a' := ?_) ?_ ?_
      rotate_left
      · show Act.put _ (some 16) _ = _
        simp only [Act.put, List.setIfInBounds_toArray, List.set_cons_zero, List.set_cons_succ, i64_w, i32_w]
        rfl
      obtain ⟨A6, c6, rfl⟩ := Kd.R_slice HO.out
      refine one_ (i := 7) (N := (some 17)) #[true, true, true, true, true, true, true, true, false] rfl rfl (by kernel_rfl) (by decide) (fun K hK => ?_)
      refine goes_ Tryd.func31 (by kernel_rfl) rfl #[.bool true, .slice A6 r.length c6] (by rfl) rfl rfl (by (try simp only [List.map_toArray, List.map_cons, List.map_nil]); first | done | rfl) ?_
      refine (cut_any We true A6 c6 r (Kd.R_reads' HO.out).2.2 (Kd.R_reads' HO.out).2.1 HDR.out hlr).mono ?_
      rintro e Wf ⟨v1, rfl, hv, hb⟩
      replace HX2 := Aside0.mk (blk_below HX2.out hb)
      replace HX3 := Aside0.mk (blk_below HX3.out hb)
      replace HX4 := Aside0.mk (blk_below HX4.out hb)
      replace HB := Aside0.mk (below_step HB.out hb)
      have HV := Aside0.mk hv
      clear hv HO
      clear hb hHeld
      refine ⟨_, rfl, ?_⟩
      refine hK.out _ _ ⟨(blk_cell HX2.out 0).trans rfl, (blk_cell HX2.out 1).trans rfl, (blk_cell HX3.out 0).trans rfl, (blk_cell HX3.out 1).trans rfl⟩ (fun hHeld => ?_)
      clear hK K
      refine norm_ (a' := ?_) ?_ ?_
      rotate_left
      · show Act.put _ (some 17) _ = _
        simp only [Act.put, List.setIfInBounds_toArray, List.set_cons_zero, List.set_cons_succ, i64_w, i32_w]
        rfl
      obtain ⟨ng, A7, n7, c7, rfl⟩ := HV.out.form
      have c0 : Wf.cell? ⟨b4, 0, none⟩ = some (.bool false) := (blk_cell HX4.out 0).trans rfl
      have c1 : Wf.cell? ⟨b4, 1, none⟩ = some (.slice none 0 0) := (blk_cell HX4.out 1).trans rfl
      have f0 := blk_frozen HX4.out 0
      have f1 := blk_frozen HX4.out 1
      refine one_ (i := 8) (N := none) #[true, true, true, true, true, true, true, true, true] rfl rfl (by kernel_rfl) (by decide) (fun K hK => ?_)
      refine skip_ (w1 := (Wf.setCell ⟨b4, 0, none⟩ (.bool ng)).setCell ⟨b4, 1, none⟩ (.slice A7 n7 c7)) (by rfl) rfl (by first | (go_simp; done) | (go_simp; rfl)) ?_
      obtain ⟨r0, r1, hv2, hB2⟩ := store_big HX4.out g4 HB.out HV.out
      replace HX2 := Aside0.mk (blk_far (blk_far HX2.out (p := ⟨b4, 0, none⟩) (by assumption) (.bool ng)) (p := ⟨b4, 1, none⟩) (by assumption) (.slice A7 n7 c7))
      replace HX3 := Aside0.mk (blk_far (blk_far HX3.out (p := ⟨b4, 0, none⟩) (by assumption) (.bool ng)) (p := ⟨b4, 1, none⟩) (by assumption) (.slice A7 n7 c7))
      clear HX4 HB c0 c1 f0 f1 hHeld
      generalize (Wf.setCell ⟨b4, 0, none⟩ (.bool ng)).setCell ⟨b4, 1, none⟩ (.slice A7 n7 c7) = WS at r0 r1 hv2 hB2 HX2 HX3 ⊢
      refine hK.out _ _ ⟨(blk_cell HX2.out 0).trans rfl, (blk_cell HX2.out 1).trans rfl, (blk_cell HX3.out 0).trans rfl, (blk_cell HX3.out 1).trans rfl⟩ (fun hHeld => ?_)
      clear hK K
      refine done_ (by kernel_rfl) ?_
      replace hv2 : IsBig WS (.agg #[.bool ng, .slice A7 n7 c7]) (a + b) := by
        rw [HZA.out, HZB.out]
        have := HVR.out
        rw [show (if (true : Bool) = true then - val r else val r) = (if (true : Bool) = true then - val la else val la) + (if (true : Bool) = true then - val lb else val lb) by simp; omega] at hv2
        exact hv2
      go_wp2_with fail
      refine ⟨rfl, .agg #[.bool ng, .slice A7 n7 c7], ?_, _, rfl, hv2, hB2⟩
      simp [results, Tryd.results38, go_sem, r0, r1]

end Go.Proofs.YtofmingbmcinhaaDoor.Bg
