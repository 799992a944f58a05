/- A part of the proof of TopAgain, where the package's tables hold what their initialisers lay. -/
import Derived.Test.YtpdahkgandaabaaGreatDoorT01
import Derived.Test.YtpdahkgandaabaaGreatDoorT23
namespace Go.Proofs.YtpdahkgandaabaaGreatDoor.Bg
open Go.RowKit Go.Proofs.YtpdahkgandaabaaGreatDoorW.PrintWords Go.Proofs.YtpdahkgandaabaaGreatDoorW.PrintLast Go.Proofs.YtpdahkgandaabaaGreatDoorW.PrintMore Go.Proofs.YtpdahkgandaabaaGreatDoor.PDoc
set_option linter.unusedVariables false
set_option linter.unusedSimpArgs false
def Small (z : Int) : Prop := -1208925819614629174706176 < z ∧ z < 1208925819614629174706176
theorem size1 (w : World) (o : Obj) : (w.alloc o).heap.size = w.heap.size + 1 := by
 unfold World.alloc
 exact Array.size_push _
theorem blocks2 (w : World) (x y : Array Value) (t s : TypeId) : ((w.alloc (.cells x t)).alloc (.cells y s)).heap[w.heap.size]? = some (.cells x t (0, 0)) ∧ ((w.alloc (.cells x t)).alloc (.cells y s)).heap[w.heap.size + 1]? = some (.cells y s (0, 0)) ∧
  Below w.heap.size w ((w.alloc (.cells x t)).alloc (.cells y s)) := by
 have h := blk_new (w.alloc (.cells x t)) (.cells y s)
 rw [size1] at h
 exact ⟨blk_alloc (blk_new w _) _, h, below_alloc (below_alloc (Below.refl _ _) _) _⟩
theorem blocks3 (w : World) (x y z : Array Value) (t s r : TypeId) : (((w.alloc (.cells x t)).alloc (.cells y s)).alloc (.cells z r)).heap[w.heap.size]? = some (.cells x t (0, 0)) ∧ (((w.alloc (.cells x t)).alloc (.cells y s)).alloc (.cells z r)).heap[w.heap.size + 1]? = some (.cells y s (0, 0)) ∧
  (((w.alloc (.cells x t)).alloc (.cells y s)).alloc (.cells z r)).heap[w.heap.size + 1 + 1]? = some (.cells z r (0, 0)) ∧ Below w.heap.size w (((w.alloc (.cells x t)).alloc (.cells y s)).alloc (.cells z r)) := by
 obtain ⟨h1, h2, h3⟩ := blocks2 w x y t s
 have h := blk_new ((w.alloc (.cells x t)).alloc (.cells y s)) (.cells z r)
 rw [size1, size1] at h
 exact ⟨blk_alloc h1 _, blk_alloc h2 _, h, below_alloc h3 _⟩
set_option maxRecDepth 100000 in
set_option maxHeartbeats 4000000 in
theorem turn_any (w : World) (va : Value) (a : Int) (hva : IsBig w va a) (ha : Small a) : Calls Tryz.prog 86 #[va] w fun e w' => ∃ v, e = .returned v ∧ IsBig w' v (-a) ∧ Below w.heap.size w w' := by
 obtain ⟨na, la, A, ca, rfl, hCa, hca, hda, hna, hza, hpa⟩ := hva
 have hl : la.length ≤ 5 := big_len hda hna (by unfold Small at ha; cases na <;> simp at hza <;> omega)
 have HC := am hCa
 have HD := am hda
 have HL := am hca
 have HZ := am (show (if (!na) = true then - val la else val la) = -a by rw [hza]; cases na <;> simp)
 clear hCa hca hda hna hza hpa ha
 go_enter Tryz.func86, Tryz.ntmps86
 go_wp2_with fail
 obtain ⟨x2, x4, hB⟩ := blocks2 w #[.bool na, .slice A la.length ca] #[.bool false, .slice none 0 0] 85 85
 generalize (w.alloc (.cells #[.bool na, .slice A la.length ca] 85)).alloc (.cells #[.bool false, .slice none 0 0] 85) = w1 at x2 x4 hB ⊢
 obtain ⟨b4, h4⟩ := e_x (w.heap.size + 1)
 have g4 : w.heap.size ≤ b4 := by omega
 rw [← h4] at x4 ⊢
 have HX4 := am x4
 have HB := am hB
 clear x2 x4 hB h4
 refine (cut_any w1 (!na) A ca la (Kd.C_below HC.out HB.out) HL.out HD.out (by omega)).mono ?_
 rintro e w2 ⟨v, rfl, hv, hb⟩
 rw [HZ.out] at hv
 replace HX4 := b_b HX4 hb
 replace HB := b_s HB hb
 clear hb
 obtain ⟨ng, A, n, c, rfl⟩ := hv.form
 have HV := am hv
 have c0 := b_l HX4 0 rfl
 have c1 := b_l HX4 1 rfl
 have f0 := b_z HX4 0
 have f1 := b_z HX4 1
 clear hv
 go_wp2_with fail
 obtain ⟨r0, r1, hv, hB⟩ := store_big HX4.out g4 HB.out HV.out
 generalize (w2.setCell ⟨b4, 0, none⟩ (.bool ng)).setCell ⟨b4, 1, none⟩ (.slice A n c) = W at r0 r1 hv hB ⊢
 clear c0 c1 f0 f1
 refine ⟨rfl, .agg #[.bool ng, .slice A n c], ?_, _, rfl, hv, hB⟩
 simp [results, Tryz.results86, go_sem, r0, r1]
set_option maxRecDepth 100000 in
set_option maxHeartbeats 4000000 in
theorem add_any (w : World) (va vb : Value) (a b : Int) (hva : IsBig w va a) (hvb : IsBig w vb b) (ha : Small a) (hb : Small b) :
  Calls Tryz.prog 124 #[va, vb] w fun e w' => ∃ v, e = .returned v ∧ IsBig w' v (a + b) ∧ Below w.heap.size w w' := by
 obtain ⟨na, la, A, ca, rfl, hCa, hca, hda, hna, hza, hpa⟩ := hva
 obtain ⟨nb, lb, B, cb, rfl, hCb, hcb, hdb, hnb, hzb, hpb⟩ := hvb
 have hla : la.length ≤ 5 := big_len hda hna (by unfold Small at ha; cases na <;> simp at hza <;> omega)
 have hlb : lb.length ≤ 5 := big_len hdb hnb (by unfold Small at hb; cases nb <;> simp at hzb <;> omega)
 have HCA := am hCa
 have HDA := am hda
 have HLA := am hca
 have HNA := am hna
 have HZA := am hza
 have HPA := am hpa
 have HCB := am hCb
 have HDB := am hdb
 have HLB := am hcb
 have HNB := am hnb
 have HZB := am hzb
 have HPB := am hpb
 clear hCa hca hda hna hza hpa hCb hcb hdb hnb hzb hpb ha hb
 go_enter Tryz.func124, Tryz.ntmps124
 go_upto_region 1 with fail
 obtain ⟨x2, x3, x4, hB⟩ := blocks3 w #[.bool na, .slice A la.length ca] #[.bool nb, .slice B lb.length cb] #[.bool false, .slice none 0 0] 85 85 85
 generalize ((w.alloc (.cells #[.bool na, .slice A la.length ca] 85)).alloc (.cells #[.bool nb, .slice B lb.length cb] 85)).alloc (.cells #[.bool false, .slice none 0 0] 85) = w1 at x2 x3 x4 hB ⊢
 obtain ⟨b2, h2⟩ := e_x (w.heap.size)
 obtain ⟨b3, h3⟩ := e_x (w.heap.size + 1)
 obtain ⟨b4, h4⟩ := e_x (w.heap.size + 1 + 1)
 have g4 : w.heap.size ≤ b4 := by omega
 have d24 : b2 ≠ b4 := by omega
 have d34 : b3 ≠ b4 := by omega
 rw [← h4, ← h3, ← h2]
 rw [← h4] at x4
 rw [← h3] at x3
 rw [← h2] at x2
 have HX2 := am x2
 have HX3 := am x3
 have HX4 := am x4
 have HB := am hB
 clear x2 x3 x4 hB h2 h3 h4
 have x20 := b_l HX2 0 rfl
 have x21 := b_l HX2 1 rfl
 have x30 := b_l HX3 0 rfl
 have x31 := b_l HX3 1 rfl
 cases na with
 | false =>
  cases nb with
  | false =>
   go_upto_region 2 with fail
   clear x20 x21 x30 x31
   obtain ⟨r, hf, hdr, hlr0, hvr⟩ := sum_f la lb HDA.out HDB.out (by omega) (by omega)
   have hlr : r.length ≤ 2000 := by omega
   have HF := am hf
   have HDR := am hdr
   clear hf hdr
   have HVR := am hvr
   clear hvr
   refine s_t 9 (fun w' => w'.cell? ⟨b2, 0, none⟩ = some (.bool false) ∧ w'.cell? ⟨b2, 1, none⟩ = some (.slice A la.length ca) ∧ w'.cell? ⟨b3, 0, none⟩ = some (.bool false) ∧ w'.cell? ⟨b3, 1, none⟩ = some (.slice B lb.length cb)) ⟨(blk_cell HX2.out 0).trans rfl, (blk_cell HX2.out 1).trans rfl, (blk_cell HX3.out 0).trans rfl, (blk_cell HX3.out 1).trans rfl⟩ (fun hHeld => ?_)
   replace HX2 := b_d HX2
   replace HX3 := b_d HX3
   replace HX4 := b_d HX4
   replace HB := am (below_drew HB.out)
   generalize w1.drew = Wd at HX2 HX3 HX4 HB hHeld ⊢
   refine p_u 0 10 9 1 ?_
   refine t_a 1 11 9 3 hHeld ?_ (hv := by rintro w' ⟨s0, s1, s2, s3⟩; go_simp; with_reducible rfl)
   refine p_u 2 12 9 7 ?_
   refine t_a 3 13 9 15 hHeld ?_ (hv := by rintro w' ⟨s0, s1, s2, s3⟩; go_simp; with_reducible rfl)
   refine p_u 4 14 9 31 ?_
   refine t_a 5 15 9 63 hHeld ?_ (hv := by rintro w' ⟨s0, s1, s2, s3⟩; go_simp; with_reducible rfl)
   refine o_n 6 16 9 127 fun K hK => ?_
   refine g_s Tryz.func82 #[.slice A la.length ca, .slice B lb.length cb] ?_
   refine (aneroidref01_sum.calls 2004 A ca la B cb lb r Wd (Kd.C_below HCA.out HB.out) HLA.out (Kd.C_below HCB.out HB.out) HLB.out HF.out).mono ?_
   rintro e We ⟨v0, rfl, ho, hb⟩
   replace HX2 := b_b HX2 hb
   replace HX3 := b_b HX3 hb
   replace HX4 := b_b HX4 hb
   replace HB := b_s HB hb
   have HO := am ho
   clear ho
   clear hb hHeld
   refine ⟨_, rfl, ?_⟩
   refine hK.out _ _ ⟨(blk_cell HX2.out 0).trans rfl, (blk_cell HX2.out 1).trans rfl, (blk_cell HX3.out 0).trans rfl, (blk_cell HX3.out 1).trans rfl⟩ (fun hHeld => ?_)
   clear hK K
   refine n_o 16 ?_
   obtain ⟨A6, c6, rfl⟩ := Kd.R_slice HO.out
   refine o_n 7 17 9 255 fun K hK => ?_
   refine g_s Tryz.func83 #[.bool false, .slice A6 r.length c6] ?_
   refine (cut_any We false A6 c6 r (Kd.R_reads' HO.out).2.2 (Kd.R_reads' HO.out).2.1 HDR.out hlr).mono ?_
   rintro e Wf ⟨v1, rfl, hv, hb⟩
   replace HX2 := b_b HX2 hb
   replace HX3 := b_b HX3 hb
   replace HX4 := b_b HX4 hb
   replace HB := b_s HB hb
   have HV := am hv
   clear hv HO
   clear hb hHeld
   refine ⟨_, rfl, ?_⟩
   refine hK.out _ _ ⟨(blk_cell HX2.out 0).trans rfl, (blk_cell HX2.out 1).trans rfl, (blk_cell HX3.out 0).trans rfl, (blk_cell HX3.out 1).trans rfl⟩ (fun hHeld => ?_)
   clear hK K
   refine n_o 17 ?_
   obtain ⟨ng, A7, n7, c7, rfl⟩ := HV.out.form
   have c0 := b_l HX4 0 rfl
   have c1 := b_l HX4 1 rfl
   have f0 := b_z HX4 0
   have f1 := b_z HX4 1
   refine o_0 8 9 511 fun K hK => ?_
   refine s_k ((Wf.setCell ⟨b4, 0, none⟩ (.bool ng)).setCell ⟨b4, 1, none⟩ (.slice A7 n7 c7)) ?_
   obtain ⟨r0, r1, hv2, hB2⟩ := store_big HX4.out g4 HB.out HV.out
   replace HX2 := am (blk_far (blk_far HX2.out (p := ⟨b4, 0, none⟩) (by assumption) (.bool ng)) (p := ⟨b4, 1, none⟩) (by assumption) (.slice A7 n7 c7))
   replace HX3 := am (blk_far (blk_far HX3.out (p := ⟨b4, 0, none⟩) (by assumption) (.bool ng)) (p := ⟨b4, 1, none⟩) (by assumption) (.slice A7 n7 c7))
   clear HX4 HB c0 c1 f0 f1 hHeld
   generalize (Wf.setCell ⟨b4, 0, none⟩ (.bool ng)).setCell ⟨b4, 1, none⟩ (.slice A7 n7 c7) = WS at r0 r1 hv2 hB2 HX2 HX3 ⊢
   refine hK.out _ _ ⟨(blk_cell HX2.out 0).trans rfl, (blk_cell HX2.out 1).trans rfl, (blk_cell HX3.out 0).trans rfl, (blk_cell HX3.out 1).trans rfl⟩ (fun hHeld => ?_)
   clear hK K
   refine d_n ?_
   replace hv2 : IsBig WS (.agg #[.bool ng, .slice A7 n7 c7]) (a + b) := by
    rw [HZA.out, HZB.out]
    have := HVR.out
    rw [show (if (false : Bool) = true then - val r else val r) = (if (false : Bool) = true then - val la else val la) + (if (false : Bool) = true then - val lb else val lb) by simp; omega] at hv2
    exact hv2
   go_wp2_with fail
   refine ⟨rfl, .agg #[.bool ng, .slice A7 n7 c7], ?_, _, rfl, hv2, hB2⟩
   simp [results, Tryz.results124, go_sem, r0, r1]
  | true =>
   go_wp2_with fail
   refine (aneroidref01_less.calls (la.length + 1) A ca la B cb lb (decide (val la < val lb)) w1 (Kd.C_below HCA.out HB.out) HLA.out (Kd.C_below HCB.out HB.out) HLB.out (less_f la lb HDA.out HDB.out HNA.out HNB.out (by omega) (by omega))).mono ?_
   rintro e w3 ⟨rfl, hd⟩
   have hb := hd.below
   clear hd x20 x21 x30 x31
   replace HX2 := b_b HX2 hb
   replace HX3 := b_b HX3 hb
   replace HX4 := b_b HX4 hb
   replace HB := b_s HB hb
   clear hb
   have x20 := b_l HX2 0 rfl
   have x21 := b_l HX2 1 rfl
   have x30 := b_l HX3 0 rfl
   have x31 := b_l HX3 1 rfl
   have hlen1 : la.length ≤ lb.length ∨ lb.length < la.length := Nat.lt_or_ge lb.length la.length |>.symm
   by_cases hlt : val la < val lb
   ·
    rw [decide_eq_true hlt]
    have hll : la.length ≤ lb.length := by
     rcases hlen1 with h | h
     ·
      exact h
     have := len_lt HDB.out HDA.out HNA.out h
     omega
    clear hlen1
    go_upto_region 4 with fail
    clear x20 x21 x30 x31
    obtain ⟨r, hf, hdr, hlr0, hvr⟩ := rest_f lb la HDB.out HDA.out hll (by omega) (by omega)
    have hlr : r.length ≤ 2000 := by omega
    have HF := am hf
    have HDR := am hdr
    clear hf hdr
    have HVR := am hvr
    clear hvr
    refine s_t 9 (fun w' => w'.cell? ⟨b2, 0, none⟩ = some (.bool false) ∧ w'.cell? ⟨b2, 1, none⟩ = some (.slice A la.length ca) ∧ w'.cell? ⟨b3, 0, none⟩ = some (.bool true) ∧ w'.cell? ⟨b3, 1, none⟩ = some (.slice B lb.length cb)) ⟨(blk_cell HX2.out 0).trans rfl, (blk_cell HX2.out 1).trans rfl, (blk_cell HX3.out 0).trans rfl, (blk_cell HX3.out 1).trans rfl⟩ (fun hHeld => ?_)
    replace HX2 := b_d HX2
    replace HX3 := b_d HX3
    replace HX4 := b_d HX4
    replace HB := am (below_drew HB.out)
    generalize w3.drew = Wd at HX2 HX3 HX4 HB hHeld ⊢
    refine p_u 0 23 9 1 ?_
    refine t_a 1 24 9 3 hHeld ?_ (hv := by rintro w' ⟨s0, s1, s2, s3⟩; go_simp; with_reducible rfl)
    refine p_u 2 25 9 7 ?_
    refine t_a 3 26 9 15 hHeld ?_ (hv := by rintro w' ⟨s0, s1, s2, s3⟩; go_simp; with_reducible rfl)
    refine p_u 4 27 9 31 ?_
    refine t_a 5 28 9 63 hHeld ?_ (hv := by rintro w' ⟨s0, s1, s2, s3⟩; go_simp; with_reducible rfl)
    refine o_n 6 29 9 127 fun K hK => ?_
    refine g_s Tryz.func151 #[.slice B lb.length cb, .slice A la.length ca] ?_
    refine (aneroidref01_rest.calls (lb.length + 1) B cb lb A ca la r Wd (Kd.C_below HCB.out HB.out) HLB.out (Kd.C_below HCA.out HB.out) HLA.out HF.out).mono ?_
    rintro e We ⟨v0, rfl, ho, hb⟩
    replace HX2 := b_b HX2 hb
    replace HX3 := b_b HX3 hb
    replace HX4 := b_b HX4 hb
    replace HB := b_s HB hb
    have HO := am ho
    clear ho
    clear hb hHeld
    refine ⟨_, rfl, ?_⟩
    refine hK.out _ _ ⟨(blk_cell HX2.out 0).trans rfl, (blk_cell HX2.out 1).trans rfl, (blk_cell HX3.out 0).trans rfl, (blk_cell HX3.out 1).trans rfl⟩ (fun hHeld => ?_)
    clear hK K
    refine n_o 29 ?_
    obtain ⟨A6, c6, rfl⟩ := Kd.R_slice HO.out
    refine o_n 7 30 9 255 fun K hK => ?_
    refine g_s Tryz.func83 #[.bool true, .slice A6 r.length c6] ?_
    refine (cut_any We true A6 c6 r (Kd.R_reads' HO.out).2.2 (Kd.R_reads' HO.out).2.1 HDR.out hlr).mono ?_
    rintro e Wf ⟨v1, rfl, hv, hb⟩
    replace HX2 := b_b HX2 hb
    replace HX3 := b_b HX3 hb
    replace HX4 := b_b HX4 hb
    replace HB := b_s HB hb
    have HV := am hv
    clear hv HO
    clear hb hHeld
    refine ⟨_, rfl, ?_⟩
    refine hK.out _ _ ⟨(blk_cell HX2.out 0).trans rfl, (blk_cell HX2.out 1).trans rfl, (blk_cell HX3.out 0).trans rfl, (blk_cell HX3.out 1).trans rfl⟩ (fun hHeld => ?_)
    clear hK K
    refine n_o 30 ?_
    obtain ⟨ng, A7, n7, c7, rfl⟩ := HV.out.form
    have c0 := b_l HX4 0 rfl
    have c1 := b_l HX4 1 rfl
    have f0 := b_z HX4 0
    have f1 := b_z HX4 1
    refine o_0 8 9 511 fun K hK => ?_
    refine s_k ((Wf.setCell ⟨b4, 0, none⟩ (.bool ng)).setCell ⟨b4, 1, none⟩ (.slice A7 n7 c7)) ?_
    obtain ⟨r0, r1, hv2, hB2⟩ := store_big HX4.out g4 HB.out HV.out
    replace HX2 := am (blk_far (blk_far HX2.out (p := ⟨b4, 0, none⟩) (by assumption) (.bool ng)) (p := ⟨b4, 1, none⟩) (by assumption) (.slice A7 n7 c7))
    replace HX3 := am (blk_far (blk_far HX3.out (p := ⟨b4, 0, none⟩) (by assumption) (.bool ng)) (p := ⟨b4, 1, none⟩) (by assumption) (.slice A7 n7 c7))
    clear HX4 HB c0 c1 f0 f1 hHeld
    generalize (Wf.setCell ⟨b4, 0, none⟩ (.bool ng)).setCell ⟨b4, 1, none⟩ (.slice A7 n7 c7) = WS at r0 r1 hv2 hB2 HX2 HX3 ⊢
    refine hK.out _ _ ⟨(blk_cell HX2.out 0).trans rfl, (blk_cell HX2.out 1).trans rfl, (blk_cell HX3.out 0).trans rfl, (blk_cell HX3.out 1).trans rfl⟩ (fun hHeld => ?_)
    clear hK K
    refine d_n ?_
    replace hv2 : IsBig WS (.agg #[.bool ng, .slice A7 n7 c7]) (a + b) := by
     rw [HZA.out, HZB.out]
     have := HVR.out
     rw [show (if (true : Bool) = true then - val r else val r) = (if (false : Bool) = true then - val la else val la) + (if (true : Bool) = true then - val lb else val lb) by simp; omega] at hv2
     exact hv2
    go_wp2_with fail
    refine ⟨rfl, .agg #[.bool ng, .slice A7 n7 c7], ?_, _, rfl, hv2, hB2⟩
    simp [results, Tryz.results124, go_sem, r0, r1]
   rw [decide_eq_false hlt]
   have hll : lb.length ≤ la.length := by
    rcases Nat.lt_or_ge la.length lb.length with h | h
    ·
     have := len_lt HDA.out HDB.out HNB.out h
     omega
    exact h
   clear hlen1
   go_upto_region 5 with fail
   clear x20 x21 x30 x31
   obtain ⟨r, hf, hdr, hlr0, hvr⟩ := rest_f la lb HDA.out HDB.out hll (by omega) (by omega)
   have hlr : r.length ≤ 2000 := by omega
   have HF := am hf
   have HDR := am hdr
   clear hf hdr
   have HVR := am hvr
   clear hvr
   refine s_t 9 (fun w' => w'.cell? ⟨b2, 0, none⟩ = some (.bool false) ∧ w'.cell? ⟨b2, 1, none⟩ = some (.slice A la.length ca) ∧ w'.cell? ⟨b3, 0, none⟩ = some (.bool true) ∧ w'.cell? ⟨b3, 1, none⟩ = some (.slice B lb.length cb)) ⟨(blk_cell HX2.out 0).trans rfl, (blk_cell HX2.out 1).trans rfl, (blk_cell HX3.out 0).trans rfl, (blk_cell HX3.out 1).trans rfl⟩ (fun hHeld => ?_)
   replace HX2 := b_d HX2
   replace HX3 := b_d HX3
   replace HX4 := b_d HX4
   replace HB := am (below_drew HB.out)
   generalize w3.drew = Wd at HX2 HX3 HX4 HB hHeld ⊢
   refine p_u 0 31 9 1 ?_
   refine t_a 1 32 9 3 hHeld ?_ (hv := by rintro w' ⟨s0, s1, s2, s3⟩; go_simp; with_reducible rfl)
   refine p_u 2 33 9 7 ?_
   refine t_a 3 34 9 15 hHeld ?_ (hv := by rintro w' ⟨s0, s1, s2, s3⟩; go_simp; with_reducible rfl)
   refine p_u 4 35 9 31 ?_
   refine t_a 5 36 9 63 hHeld ?_ (hv := by rintro w' ⟨s0, s1, s2, s3⟩; go_simp; with_reducible rfl)
   refine o_n 6 37 9 127 fun K hK => ?_
   refine g_s Tryz.func151 #[.slice A la.length ca, .slice B lb.length cb] ?_
   refine (aneroidref01_rest.calls (la.length + 1) A ca la B cb lb r Wd (Kd.C_below HCA.out HB.out) HLA.out (Kd.C_below HCB.out HB.out) HLB.out HF.out).mono ?_
   rintro e We ⟨v0, rfl, ho, hb⟩
   replace HX2 := b_b HX2 hb
   replace HX3 := b_b HX3 hb
   replace HX4 := b_b HX4 hb
   replace HB := b_s HB hb
   have HO := am ho
   clear ho
   clear hb hHeld
   refine ⟨_, rfl, ?_⟩
   refine hK.out _ _ ⟨(blk_cell HX2.out 0).trans rfl, (blk_cell HX2.out 1).trans rfl, (blk_cell HX3.out 0).trans rfl, (blk_cell HX3.out 1).trans rfl⟩ (fun hHeld => ?_)
   clear hK K
   refine n_o 37 ?_
   obtain ⟨A6, c6, rfl⟩ := Kd.R_slice HO.out
   refine o_n 7 38 9 255 fun K hK => ?_
   refine g_s Tryz.func83 #[.bool false, .slice A6 r.length c6] ?_
   refine (cut_any We false A6 c6 r (Kd.R_reads' HO.out).2.2 (Kd.R_reads' HO.out).2.1 HDR.out hlr).mono ?_
   rintro e Wf ⟨v1, rfl, hv, hb⟩
   replace HX2 := b_b HX2 hb
   replace HX3 := b_b HX3 hb
   replace HX4 := b_b HX4 hb
   replace HB := b_s HB hb
   have HV := am hv
   clear hv HO
   clear hb hHeld
   refine ⟨_, rfl, ?_⟩
   refine hK.out _ _ ⟨(blk_cell HX2.out 0).trans rfl, (blk_cell HX2.out 1).trans rfl, (blk_cell HX3.out 0).trans rfl, (blk_cell HX3.out 1).trans rfl⟩ (fun hHeld => ?_)
   clear hK K
   refine n_o 38 ?_
   obtain ⟨ng, A7, n7, c7, rfl⟩ := HV.out.form
   have c0 := b_l HX4 0 rfl
   have c1 := b_l HX4 1 rfl
   have f0 := b_z HX4 0
   have f1 := b_z HX4 1
   refine o_0 8 9 511 fun K hK => ?_
   refine s_k ((Wf.setCell ⟨b4, 0, none⟩ (.bool ng)).setCell ⟨b4, 1, none⟩ (.slice A7 n7 c7)) ?_
   obtain ⟨r0, r1, hv2, hB2⟩ := store_big HX4.out g4 HB.out HV.out
   replace HX2 := am (blk_far (blk_far HX2.out (p := ⟨b4, 0, none⟩) (by assumption) (.bool ng)) (p := ⟨b4, 1, none⟩) (by assumption) (.slice A7 n7 c7))
   replace HX3 := am (blk_far (blk_far HX3.out (p := ⟨b4, 0, none⟩) (by assumption) (.bool ng)) (p := ⟨b4, 1, none⟩) (by assumption) (.slice A7 n7 c7))
   clear HX4 HB c0 c1 f0 f1 hHeld
   generalize (Wf.setCell ⟨b4, 0, none⟩ (.bool ng)).setCell ⟨b4, 1, none⟩ (.slice A7 n7 c7) = WS at r0 r1 hv2 hB2 HX2 HX3 ⊢
   refine hK.out _ _ ⟨(blk_cell HX2.out 0).trans rfl, (blk_cell HX2.out 1).trans rfl, (blk_cell HX3.out 0).trans rfl, (blk_cell HX3.out 1).trans rfl⟩ (fun hHeld => ?_)
   clear hK K
   refine d_n ?_
   replace hv2 : IsBig WS (.agg #[.bool ng, .slice A7 n7 c7]) (a + b) := by
    rw [HZA.out, HZB.out]
    have := HVR.out
    rw [show (if (false : Bool) = true then - val r else val r) = (if (false : Bool) = true then - val la else val la) + (if (true : Bool) = true then - val lb else val lb) by simp; omega] at hv2
    exact hv2
   go_wp2_with fail
   refine ⟨rfl, .agg #[.bool ng, .slice A7 n7 c7], ?_, _, rfl, hv2, hB2⟩
   simp [results, Tryz.results124, go_sem, r0, r1]
 | true =>
  cases nb with
  | false =>
   go_wp2_with fail
   refine (aneroidref01_less.calls (la.length + 1) A ca la B cb lb (decide (val la < val lb)) w1 (Kd.C_below HCA.out HB.out) HLA.out (Kd.C_below HCB.out HB.out) HLB.out (less_f la lb HDA.out HDB.out HNA.out HNB.out (by omega) (by omega))).mono ?_
   rintro e w3 ⟨rfl, hd⟩
   have hb := hd.below
   clear hd x20 x21 x30 x31
   replace HX2 := b_b HX2 hb
   replace HX3 := b_b HX3 hb
   replace HX4 := b_b HX4 hb
   replace HB := b_s HB hb
   clear hb
   have x20 := b_l HX2 0 rfl
   have x21 := b_l HX2 1 rfl
   have x30 := b_l HX3 0 rfl
   have x31 := b_l HX3 1 rfl
   have hlen1 : la.length ≤ lb.length ∨ lb.length < la.length := Nat.lt_or_ge lb.length la.length |>.symm
   by_cases hlt : val la < val lb
   ·
    rw [decide_eq_true hlt]
    have hll : la.length ≤ lb.length := by
     rcases hlen1 with h | h
     ·
      exact h
     have := len_lt HDB.out HDA.out HNA.out h
     omega
    clear hlen1
    go_upto_region 4 with fail
    clear x20 x21 x30 x31
    obtain ⟨r, hf, hdr, hlr0, hvr⟩ := rest_f lb la HDB.out HDA.out hll (by omega) (by omega)
    have hlr : r.length ≤ 2000 := by omega
    have HF := am hf
    have HDR := am hdr
    clear hf hdr
    have HVR := am hvr
    clear hvr
    refine s_t 9 (fun w' => w'.cell? ⟨b2, 0, none⟩ = some (.bool true) ∧ w'.cell? ⟨b2, 1, none⟩ = some (.slice A la.length ca) ∧ w'.cell? ⟨b3, 0, none⟩ = some (.bool false) ∧ w'.cell? ⟨b3, 1, none⟩ = some (.slice B lb.length cb)) ⟨(blk_cell HX2.out 0).trans rfl, (blk_cell HX2.out 1).trans rfl, (blk_cell HX3.out 0).trans rfl, (blk_cell HX3.out 1).trans rfl⟩ (fun hHeld => ?_)
    replace HX2 := b_d HX2
    replace HX3 := b_d HX3
    replace HX4 := b_d HX4
    replace HB := am (below_drew HB.out)
    generalize w3.drew = Wd at HX2 HX3 HX4 HB hHeld ⊢
    refine p_u 0 23 9 1 ?_
    refine t_a 1 24 9 3 hHeld ?_ (hv := by rintro w' ⟨s0, s1, s2, s3⟩; go_simp; with_reducible rfl)
    refine p_u 2 25 9 7 ?_
    refine t_a 3 26 9 15 hHeld ?_ (hv := by rintro w' ⟨s0, s1, s2, s3⟩; go_simp; with_reducible rfl)
    refine p_u 4 27 9 31 ?_
    refine t_a 5 28 9 63 hHeld ?_ (hv := by rintro w' ⟨s0, s1, s2, s3⟩; go_simp; with_reducible rfl)
    refine o_n 6 29 9 127 fun K hK => ?_
    refine g_s Tryz.func151 #[.slice B lb.length cb, .slice A la.length ca] ?_
    refine (aneroidref01_rest.calls (lb.length + 1) B cb lb A ca la r Wd (Kd.C_below HCB.out HB.out) HLB.out (Kd.C_below HCA.out HB.out) HLA.out HF.out).mono ?_
    rintro e We ⟨v0, rfl, ho, hb⟩
    replace HX2 := b_b HX2 hb
    replace HX3 := b_b HX3 hb
    replace HX4 := b_b HX4 hb
    replace HB := b_s HB hb
    have HO := am ho
    clear ho
    clear hb hHeld
    refine ⟨_, rfl, ?_⟩
    refine hK.out _ _ ⟨(blk_cell HX2.out 0).trans rfl, (blk_cell HX2.out 1).trans rfl, (blk_cell HX3.out 0).trans rfl, (blk_cell HX3.out 1).trans rfl⟩ (fun hHeld => ?_)
    clear hK K
    refine n_o 29 ?_
    obtain ⟨A6, c6, rfl⟩ := Kd.R_slice HO.out
    refine o_n 7 30 9 255 fun K hK => ?_
    refine g_s Tryz.func83 #[.bool false, .slice A6 r.length c6] ?_
    refine (cut_any We false A6 c6 r (Kd.R_reads' HO.out).2.2 (Kd.R_reads' HO.out).2.1 HDR.out hlr).mono ?_
    rintro e Wf ⟨v1, rfl, hv, hb⟩
    replace HX2 := b_b HX2 hb
    replace HX3 := b_b HX3 hb
    replace HX4 := b_b HX4 hb
    replace HB := b_s HB hb
    have HV := am hv
    clear hv HO
    clear hb hHeld
    refine ⟨_, rfl, ?_⟩
    refine hK.out _ _ ⟨(blk_cell HX2.out 0).trans rfl, (blk_cell HX2.out 1).trans rfl, (blk_cell HX3.out 0).trans rfl, (blk_cell HX3.out 1).trans rfl⟩ (fun hHeld => ?_)
    clear hK K
    refine n_o 30 ?_
    obtain ⟨ng, A7, n7, c7, rfl⟩ := HV.out.form
    have c0 := b_l HX4 0 rfl
    have c1 := b_l HX4 1 rfl
    have f0 := b_z HX4 0
    have f1 := b_z HX4 1
    refine o_0 8 9 511 fun K hK => ?_
    refine s_k ((Wf.setCell ⟨b4, 0, none⟩ (.bool ng)).setCell ⟨b4, 1, none⟩ (.slice A7 n7 c7)) ?_
    obtain ⟨r0, r1, hv2, hB2⟩ := store_big HX4.out g4 HB.out HV.out
    replace HX2 := am (blk_far (blk_far HX2.out (p := ⟨b4, 0, none⟩) (by assumption) (.bool ng)) (p := ⟨b4, 1, none⟩) (by assumption) (.slice A7 n7 c7))
    replace HX3 := am (blk_far (blk_far HX3.out (p := ⟨b4, 0, none⟩) (by assumption) (.bool ng)) (p := ⟨b4, 1, none⟩) (by assumption) (.slice A7 n7 c7))
    clear HX4 HB c0 c1 f0 f1 hHeld
    generalize (Wf.setCell ⟨b4, 0, none⟩ (.bool ng)).setCell ⟨b4, 1, none⟩ (.slice A7 n7 c7) = WS at r0 r1 hv2 hB2 HX2 HX3 ⊢
    refine hK.out _ _ ⟨(blk_cell HX2.out 0).trans rfl, (blk_cell HX2.out 1).trans rfl, (blk_cell HX3.out 0).trans rfl, (blk_cell HX3.out 1).trans rfl⟩ (fun hHeld => ?_)
    clear hK K
    refine d_n ?_
    replace hv2 : IsBig WS (.agg #[.bool ng, .slice A7 n7 c7]) (a + b) := by
     rw [HZA.out, HZB.out]
     have := HVR.out
     rw [show (if (false : Bool) = true then - val r else val r) = (if (true : Bool) = true then - val la else val la) + (if (false : Bool) = true then - val lb else val lb) by simp; omega] at hv2
     exact hv2
    go_wp2_with fail
    refine ⟨rfl, .agg #[.bool ng, .slice A7 n7 c7], ?_, _, rfl, hv2, hB2⟩
    simp [results, Tryz.results124, go_sem, r0, r1]
   rw [decide_eq_false hlt]
   have hll : lb.length ≤ la.length := by
    rcases Nat.lt_or_ge la.length lb.length with h | h
    ·
     have := len_lt HDA.out HDB.out HNB.out h
     omega
    exact h
   clear hlen1
   go_upto_region 5 with fail
   clear x20 x21 x30 x31
   obtain ⟨r, hf, hdr, hlr0, hvr⟩ := rest_f la lb HDA.out HDB.out hll (by omega) (by omega)
   have hlr : r.length ≤ 2000 := by omega
   have HF := am hf
   have HDR := am hdr
   clear hf hdr
   have HVR := am hvr
   clear hvr
   refine s_t 9 (fun w' => w'.cell? ⟨b2, 0, none⟩ = some (.bool true) ∧ w'.cell? ⟨b2, 1, none⟩ = some (.slice A la.length ca) ∧ w'.cell? ⟨b3, 0, none⟩ = some (.bool false) ∧ w'.cell? ⟨b3, 1, none⟩ = some (.slice B lb.length cb)) ⟨(blk_cell HX2.out 0).trans rfl, (blk_cell HX2.out 1).trans rfl, (blk_cell HX3.out 0).trans rfl, (blk_cell HX3.out 1).trans rfl⟩ (fun hHeld => ?_)
   replace HX2 := b_d HX2
   replace HX3 := b_d HX3
   replace HX4 := b_d HX4
   replace HB := am (below_drew HB.out)
   generalize w3.drew = Wd at HX2 HX3 HX4 HB hHeld ⊢
   refine p_u 0 31 9 1 ?_
   refine t_a 1 32 9 3 hHeld ?_ (hv := by rintro w' ⟨s0, s1, s2, s3⟩; go_simp; with_reducible rfl)
   refine p_u 2 33 9 7 ?_
   refine t_a 3 34 9 15 hHeld ?_ (hv := by rintro w' ⟨s0, s1, s2, s3⟩; go_simp; with_reducible rfl)
   refine p_u 4 35 9 31 ?_
   refine t_a 5 36 9 63 hHeld ?_ (hv := by rintro w' ⟨s0, s1, s2, s3⟩; go_simp; with_reducible rfl)
   refine o_n 6 37 9 127 fun K hK => ?_
   refine g_s Tryz.func151 #[.slice A la.length ca, .slice B lb.length cb] ?_
   refine (aneroidref01_rest.calls (la.length + 1) A ca la B cb lb r Wd (Kd.C_below HCA.out HB.out) HLA.out (Kd.C_below HCB.out HB.out) HLB.out HF.out).mono ?_
   rintro e We ⟨v0, rfl, ho, hb⟩
   replace HX2 := b_b HX2 hb
   replace HX3 := b_b HX3 hb
   replace HX4 := b_b HX4 hb
   replace HB := b_s HB hb
   have HO := am ho
   clear ho
   clear hb hHeld
   refine ⟨_, rfl, ?_⟩
   refine hK.out _ _ ⟨(blk_cell HX2.out 0).trans rfl, (blk_cell HX2.out 1).trans rfl, (blk_cell HX3.out 0).trans rfl, (blk_cell HX3.out 1).trans rfl⟩ (fun hHeld => ?_)
   clear hK K
   refine n_o 37 ?_
   obtain ⟨A6, c6, rfl⟩ := Kd.R_slice HO.out
   refine o_n 7 38 9 255 fun K hK => ?_
   refine g_s Tryz.func83 #[.bool true, .slice A6 r.length c6] ?_
   refine (cut_any We true A6 c6 r (Kd.R_reads' HO.out).2.2 (Kd.R_reads' HO.out).2.1 HDR.out hlr).mono ?_
   rintro e Wf ⟨v1, rfl, hv, hb⟩
   replace HX2 := b_b HX2 hb
   replace HX3 := b_b HX3 hb
   replace HX4 := b_b HX4 hb
   replace HB := b_s HB hb
   have HV := am hv
   clear hv HO
   clear hb hHeld
   refine ⟨_, rfl, ?_⟩
   refine hK.out _ _ ⟨(blk_cell HX2.out 0).trans rfl, (blk_cell HX2.out 1).trans rfl, (blk_cell HX3.out 0).trans rfl, (blk_cell HX3.out 1).trans rfl⟩ (fun hHeld => ?_)
   clear hK K
   refine n_o 38 ?_
   obtain ⟨ng, A7, n7, c7, rfl⟩ := HV.out.form
   have c0 := b_l HX4 0 rfl
   have c1 := b_l HX4 1 rfl
   have f0 := b_z HX4 0
   have f1 := b_z HX4 1
   refine o_0 8 9 511 fun K hK => ?_
   refine s_k ((Wf.setCell ⟨b4, 0, none⟩ (.bool ng)).setCell ⟨b4, 1, none⟩ (.slice A7 n7 c7)) ?_
   obtain ⟨r0, r1, hv2, hB2⟩ := store_big HX4.out g4 HB.out HV.out
   replace HX2 := am (blk_far (blk_far HX2.out (p := ⟨b4, 0, none⟩) (by assumption) (.bool ng)) (p := ⟨b4, 1, none⟩) (by assumption) (.slice A7 n7 c7))
   replace HX3 := am (blk_far (blk_far HX3.out (p := ⟨b4, 0, none⟩) (by assumption) (.bool ng)) (p := ⟨b4, 1, none⟩) (by assumption) (.slice A7 n7 c7))
   clear HX4 HB c0 c1 f0 f1 hHeld
   generalize (Wf.setCell ⟨b4, 0, none⟩ (.bool ng)).setCell ⟨b4, 1, none⟩ (.slice A7 n7 c7) = WS at r0 r1 hv2 hB2 HX2 HX3 ⊢
   refine hK.out _ _ ⟨(blk_cell HX2.out 0).trans rfl, (blk_cell HX2.out 1).trans rfl, (blk_cell HX3.out 0).trans rfl, (blk_cell HX3.out 1).trans rfl⟩ (fun hHeld => ?_)
   clear hK K
   refine d_n ?_
   replace hv2 : IsBig WS (.agg #[.bool ng, .slice A7 n7 c7]) (a + b) := by
    rw [HZA.out, HZB.out]
    have := HVR.out
    rw [show (if (true : Bool) = true then - val r else val r) = (if (true : Bool) = true then - val la else val la) + (if (false : Bool) = true then - val lb else val lb) by simp; omega] at hv2
    exact hv2
   go_wp2_with fail
   refine ⟨rfl, .agg #[.bool ng, .slice A7 n7 c7], ?_, _, rfl, hv2, hB2⟩
   simp [results, Tryz.results124, go_sem, r0, r1]
  | true =>
   go_upto_region 2 with fail
   clear x20 x21 x30 x31
   obtain ⟨r, hf, hdr, hlr0, hvr⟩ := sum_f la lb HDA.out HDB.out (by omega) (by omega)
   have hlr : r.length ≤ 2000 := by omega
   have HF := am hf
   have HDR := am hdr
   clear hf hdr
   have HVR := am hvr
   clear hvr
   refine s_t 9 (fun w' => w'.cell? ⟨b2, 0, none⟩ = some (.bool true) ∧ w'.cell? ⟨b2, 1, none⟩ = some (.slice A la.length ca) ∧ w'.cell? ⟨b3, 0, none⟩ = some (.bool true) ∧ w'.cell? ⟨b3, 1, none⟩ = some (.slice B lb.length cb)) ⟨(blk_cell HX2.out 0).trans rfl, (blk_cell HX2.out 1).trans rfl, (blk_cell HX3.out 0).trans rfl, (blk_cell HX3.out 1).trans rfl⟩ (fun hHeld => ?_)
   replace HX2 := b_d HX2
   replace HX3 := b_d HX3
   replace HX4 := b_d HX4
   replace HB := am (below_drew HB.out)
   generalize w1.drew = Wd at HX2 HX3 HX4 HB hHeld ⊢
   refine p_u 0 10 9 1 ?_
   refine t_a 1 11 9 3 hHeld ?_ (hv := by rintro w' ⟨s0, s1, s2, s3⟩; go_simp; with_reducible rfl)
   refine p_u 2 12 9 7 ?_
   refine t_a 3 13 9 15 hHeld ?_ (hv := by rintro w' ⟨s0, s1, s2, s3⟩; go_simp; with_reducible rfl)
   refine p_u 4 14 9 31 ?_
   refine t_a 5 15 9 63 hHeld ?_ (hv := by rintro w' ⟨s0, s1, s2, s3⟩; go_simp; with_reducible rfl)
   refine o_n 6 16 9 127 fun K hK => ?_
   refine g_s Tryz.func82 #[.slice A la.length ca, .slice B lb.length cb] ?_
   refine (aneroidref01_sum.calls 2004 A ca la B cb lb r Wd (Kd.C_below HCA.out HB.out) HLA.out (Kd.C_below HCB.out HB.out) HLB.out HF.out).mono ?_
   rintro e We ⟨v0, rfl, ho, hb⟩
   replace HX2 := b_b HX2 hb
   replace HX3 := b_b HX3 hb
   replace HX4 := b_b HX4 hb
   replace HB := b_s HB hb
   have HO := am ho
   clear ho
   clear hb hHeld
   refine ⟨_, rfl, ?_⟩
   refine hK.out _ _ ⟨(blk_cell HX2.out 0).trans rfl, (blk_cell HX2.out 1).trans rfl, (blk_cell HX3.out 0).trans rfl, (blk_cell HX3.out 1).trans rfl⟩ (fun hHeld => ?_)
   clear hK K
   refine n_o 16 ?_
   obtain ⟨A6, c6, rfl⟩ := Kd.R_slice HO.out
   refine o_n 7 17 9 255 fun K hK => ?_
   refine g_s Tryz.func83 #[.bool true, .slice A6 r.length c6] ?_
   refine (cut_any We true A6 c6 r (Kd.R_reads' HO.out).2.2 (Kd.R_reads' HO.out).2.1 HDR.out hlr).mono ?_
   rintro e Wf ⟨v1, rfl, hv, hb⟩
   replace HX2 := b_b HX2 hb
   replace HX3 := b_b HX3 hb
   replace HX4 := b_b HX4 hb
   replace HB := b_s HB hb
   have HV := am hv
   clear hv HO
   clear hb hHeld
   refine ⟨_, rfl, ?_⟩
   refine hK.out _ _ ⟨(blk_cell HX2.out 0).trans rfl, (blk_cell HX2.out 1).trans rfl, (blk_cell HX3.out 0).trans rfl, (blk_cell HX3.out 1).trans rfl⟩ (fun hHeld => ?_)
   clear hK K
   refine n_o 17 ?_
   obtain ⟨ng, A7, n7, c7, rfl⟩ := HV.out.form
   have c0 := b_l HX4 0 rfl
   have c1 := b_l HX4 1 rfl
   have f0 := b_z HX4 0
   have f1 := b_z HX4 1
   refine o_0 8 9 511 fun K hK => ?_
   refine s_k ((Wf.setCell ⟨b4, 0, none⟩ (.bool ng)).setCell ⟨b4, 1, none⟩ (.slice A7 n7 c7)) ?_
   obtain ⟨r0, r1, hv2, hB2⟩ := store_big HX4.out g4 HB.out HV.out
   replace HX2 := am (blk_far (blk_far HX2.out (p := ⟨b4, 0, none⟩) (by assumption) (.bool ng)) (p := ⟨b4, 1, none⟩) (by assumption) (.slice A7 n7 c7))
   replace HX3 := am (blk_far (blk_far HX3.out (p := ⟨b4, 0, none⟩) (by assumption) (.bool ng)) (p := ⟨b4, 1, none⟩) (by assumption) (.slice A7 n7 c7))
   clear HX4 HB c0 c1 f0 f1 hHeld
   generalize (Wf.setCell ⟨b4, 0, none⟩ (.bool ng)).setCell ⟨b4, 1, none⟩ (.slice A7 n7 c7) = WS at r0 r1 hv2 hB2 HX2 HX3 ⊢
   refine hK.out _ _ ⟨(blk_cell HX2.out 0).trans rfl, (blk_cell HX2.out 1).trans rfl, (blk_cell HX3.out 0).trans rfl, (blk_cell HX3.out 1).trans rfl⟩ (fun hHeld => ?_)
   clear hK K
   refine d_n ?_
   replace hv2 : IsBig WS (.agg #[.bool ng, .slice A7 n7 c7]) (a + b) := by
    rw [HZA.out, HZB.out]
    have := HVR.out
    rw [show (if (true : Bool) = true then - val r else val r) = (if (true : Bool) = true then - val la else val la) + (if (true : Bool) = true then - val lb else val lb) by simp; omega] at hv2
    exact hv2
   go_wp2_with fail
   refine ⟨rfl, .agg #[.bool ng, .slice A7 n7 c7], ?_, _, rfl, hv2, hB2⟩
   simp [results, Tryz.results124, go_sem, r0, r1]
set_option maxRecDepth 100000 in
set_option maxHeartbeats 4000000 in
theorem sub_any (w : World) (va vb : Value) (a b : Int) (hva : IsBig w va a) (hvb : IsBig w vb b) (ha : Small a) (hb : Small b) :
  Calls Tryz.prog 88 #[va, vb] w fun e w' => ∃ v, e = .returned v ∧ IsBig w' v (a - b) ∧ Below w.heap.size w w' := by
 obtain ⟨na, A, n, ca, rfl⟩ := hva.form
 obtain ⟨nb, B, m, cb, rfl⟩ := hvb.form
 have HVA := am hva
 have HVB := am hvb
 have HSA := am ha
 have HSB := am hb
 clear hva hvb ha hb
 go_enter Tryz.func88, Tryz.ntmps88
 go_upto_region 1 with fail
 obtain ⟨x2, x3, x4, hB⟩ := blocks3 w #[.bool na, .slice A n ca] #[.bool nb, .slice B m cb] #[.bool false, .slice none 0 0] 85 85 85
 generalize ((w.alloc (.cells #[.bool na, .slice A n ca] 85)).alloc (.cells #[.bool nb, .slice B m cb] 85)).alloc (.cells #[.bool false, .slice none 0 0] 85) = w1 at x2 x3 x4 hB ⊢
 obtain ⟨b2, h2⟩ := e_x (w.heap.size)
 obtain ⟨b3, h3⟩ := e_x (w.heap.size + 1)
 obtain ⟨b4, h4⟩ := e_x (w.heap.size + 1 + 1)
 have g4 : w.heap.size ≤ b4 := by omega
 have d24 : b2 ≠ b4 := by omega
 have d34 : b3 ≠ b4 := by omega
 rw [← h4, ← h3, ← h2]
 rw [← h4] at x4
 rw [← h3] at x3
 rw [← h2] at x2
 have HX2 := am x2
 have HX3 := am x3
 have HX4 := am x4
 have HB := am hB
 clear x2 x3 x4 hB h2 h3 h4
 refine s_t 5 (fun w' => w'.cell? ⟨b2, 0, none⟩ = some (.bool na) ∧ w'.cell? ⟨b2, 1, none⟩ = some (.slice A n ca) ∧ w'.cell? ⟨b3, 0, none⟩ = some (.bool nb) ∧ w'.cell? ⟨b3, 1, none⟩ = some (.slice B m cb)) ⟨(blk_cell HX2.out 0).trans rfl, (blk_cell HX2.out 1).trans rfl, (blk_cell HX3.out 0).trans rfl, (blk_cell HX3.out 1).trans rfl⟩ (fun hHeld => ?_)
 replace HX2 := b_d HX2
 replace HX3 := b_d HX3
 replace HX4 := b_d HX4
 replace HB := am (below_drew HB.out)
 generalize w1.drew = Wd at HX2 HX3 HX4 HB hHeld ⊢
 refine t_a 0 5 5 1 hHeld ?_ (hv := by rintro w' ⟨s0, s1, s2, s3⟩; go_simp; with_reducible rfl)
 refine t_a 1 6 5 3 hHeld ?_ (hv := by rintro w' ⟨s0, s1, s2, s3⟩; go_simp; with_reducible rfl)
 refine o_n 2 7 5 7 fun K hK => ?_
 refine g_s Tryz.func86 #[.agg #[.bool nb, .slice B m cb]] ?_
 refine (turn_any Wd _ b (HVB.out.below HB.out) HSB.out).mono ?_
 rintro e We ⟨v1, rfl, hv, hb⟩
 replace HX2 := b_b HX2 hb
 replace HX3 := b_b HX3 hb
 replace HX4 := b_b HX4 hb
 replace HB := b_s HB hb
 have HV := am hv
 clear hv
 clear hb hHeld
 refine ⟨_, rfl, ?_⟩
 refine hK.out _ _ ⟨(blk_cell HX2.out 0).trans rfl, (blk_cell HX2.out 1).trans rfl, (blk_cell HX3.out 0).trans rfl, (blk_cell HX3.out 1).trans rfl⟩ (fun hHeld => ?_)
 clear hK K
 refine n_o 7 ?_
 refine o_n 3 8 5 15 fun K hK => ?_
 refine g_s Tryz.func124 #[.agg #[.bool na, .slice A n ca], v1] ?_
 refine (add_any We _ v1 a (-b) (HVA.out.below HB.out) HV.out HSA.out (by have := HSB.out; unfold Small at this ⊢; omega)).mono ?_
 rintro e Wf ⟨v2, rfl, hv, hb⟩
 replace HX2 := b_b HX2 hb
 replace HX3 := b_b HX3 hb
 replace HX4 := b_b HX4 hb
 replace HB := b_s HB hb
 have HW := am hv
 clear hv HV
 clear hb hHeld
 refine ⟨_, rfl, ?_⟩
 refine hK.out _ _ ⟨(blk_cell HX2.out 0).trans rfl, (blk_cell HX2.out 1).trans rfl, (blk_cell HX3.out 0).trans rfl, (blk_cell HX3.out 1).trans rfl⟩ (fun hHeld => ?_)
 clear hK K
 refine n_o 8 ?_
 obtain ⟨ng, A7, n7, c7, rfl⟩ := HW.out.form
 have c0 := b_l HX4 0 rfl
 have c1 := b_l HX4 1 rfl
 have f0 := b_z HX4 0
 have f1 := b_z HX4 1
 refine o_0 4 5 31 fun K hK => ?_
 refine s_k ((Wf.setCell ⟨b4, 0, none⟩ (.bool ng)).setCell ⟨b4, 1, none⟩ (.slice A7 n7 c7)) ?_
 obtain ⟨r0, r1, hv2, hB2⟩ := store_big HX4.out g4 HB.out HW.out
 replace HX2 := am (blk_far (blk_far HX2.out (p := ⟨b4, 0, none⟩) (by assumption) (.bool ng)) (p := ⟨b4, 1, none⟩) (by assumption) (.slice A7 n7 c7))
 replace HX3 := am (blk_far (blk_far HX3.out (p := ⟨b4, 0, none⟩) (by assumption) (.bool ng)) (p := ⟨b4, 1, none⟩) (by assumption) (.slice A7 n7 c7))
 clear HX4 HB c0 c1 f0 f1 hHeld
 generalize (Wf.setCell ⟨b4, 0, none⟩ (.bool ng)).setCell ⟨b4, 1, none⟩ (.slice A7 n7 c7) = WS at r0 r1 hv2 hB2 HX2 HX3 ⊢
 refine hK.out _ _ ⟨(blk_cell HX2.out 0).trans rfl, (blk_cell HX2.out 1).trans rfl, (blk_cell HX3.out 0).trans rfl, (blk_cell HX3.out 1).trans rfl⟩ (fun hHeld => ?_)
 clear hK K
 refine d_n ?_
 rw [← Int.sub_eq_add_neg] at hv2
 go_wp2_with fail
 refine ⟨rfl, .agg #[.bool ng, .slice A7 n7 c7], ?_, _, rfl, hv2, hB2⟩
 simp [results, Tryz.results88, go_sem, r0, r1]
def cmpv (z : Int) : Int := if z < 0 then -1 else if 0 < z then 1 else 0
set_option maxRecDepth 100000 in
set_option maxHeartbeats 4000000 in
theorem cmp_any (w : World) (va vb : Value) (a b : Int) (hva : IsBig w va a) (hvb : IsBig w vb b) (ha : Small a) (hb : Small b) :
  Calls Tryz.prog 85 #[va, vb] w fun e w' => e = .returned (.int .i64 (cmpv (a - b))) ∧ Below w.heap.size w w' := by
 obtain ⟨na, A, n, ca, rfl⟩ := hva.form
 obtain ⟨nb, B, m, cb, rfl⟩ := hvb.form
 have HVA := am hva
 have HVB := am hvb
 have HSA := am ha
 have HSB := am hb
 clear hva hvb ha hb
 go_enter Tryz.func85, Tryz.ntmps85
 go_wp2_with fail
 obtain ⟨x2, x3, hB⟩ := blocks2 w #[.bool na, .slice A n ca] #[.bool nb, .slice B m cb] 85 85
 generalize (w.alloc (.cells #[.bool na, .slice A n ca] 85)).alloc (.cells #[.bool nb, .slice B m cb] 85) = w1 at x2 x3 hB ⊢
 have HB := am hB
 clear x2 x3 hB
 refine (sub_any w1 _ _ a b (HVA.out.below HB.out) (HVB.out.below HB.out) HSA.out HSB.out).mono ?_
 rintro e w2 ⟨v, rfl, hv, hb⟩
 replace HB := b_s HB hb
 clear hb
 obtain ⟨ng, l, C, c, rfl, hC, hc, hd, hn, hz, hp⟩ := hv
 have HR : cmpv (a - b) = if ng = true then -1 else if 0 < l.length then 1 else 0 := by
  rw [hz]
  have h0 := val_nonneg hd
  unfold cmpv
  cases ng with
  | true => have := hp rfl; simp; omega
  | false =>
   rcases Nat.eq_zero_or_pos l.length with h | h
   ·
    have : l = [] := List.eq_nil_of_length_eq_zero h
    subst this
    simp [val]
   have := top_pos hd hn 0 h
   simp at this ⊢
   rw [if_neg (by omega), if_pos this, if_pos h]
 have HRR := am HR
 clear HR hC hc hd hn hz hp
 obtain ⟨k, hk⟩ : ∃ k, k = l.length := ⟨_, rfl⟩
 rw [← hk] at HRR ⊢
 clear hk
 cases ng with
 | true =>
  go_wp2_with fail
  go_ret
  exact ⟨by rw [HRR.out]; rfl, by repeat (first | exact HB.out | apply below_alloc | apply below_drew)⟩
 | false =>
  by_cases h : 0 < k
  ·
   have k1 : decide ((0 : Int) < (k : Int)) = true := decide_eq_true (by omega)
   go_wp2_with fail
   go_ret
   exact ⟨by rw [HRR.out, if_neg (by decide), if_pos h]; rfl, by repeat (first | exact HB.out | apply below_alloc | apply below_drew)⟩
  have k1 : decide ((0 : Int) < (k : Int)) = false := decide_eq_false (by omega)
  go_wp2_with fail
  go_ret
  exact ⟨by rw [HRR.out, if_neg (by decide), if_neg h]; rfl, by repeat (first | exact HB.out | apply below_alloc | apply below_drew)⟩
theorem val_app (a b : List Int) : val (a ++ b) = val a + 65536 ^ a.length * val b := by
 induction a with
 | nil => simp [val]
 | cons d r ih =>
  rw [List.cons_append, val, val, ih, List.length_cons, Int.pow_succ]
  grind
theorem val_snoc (a : List Int) (x : Int) : val (a ++ [x]) = val a + 65536 ^ a.length * x := by
 rw [val_app]
 simp [val]
theorem take_val (l : List Int) (k : Nat) (h : k < l.length) : val (l.take (k + 1)) = val (l.take k) + 65536 ^ k * rd l (k : Int) := by
 rw [List.take_succ_eq_append_getElem h, val_snoc, List.length_take, Nat.min_eq_left (Nat.le_of_lt h), rd_in h]
theorem take_far (l : List Int) (k : Nat) (h : l.length ≤ k) : val (l.take (k + 1)) = val (l.take k) := by
 rw [List.take_of_length_le (by omega), List.take_of_length_le h]
theorem take_any (l : List Int) (k : Nat) : val (l.take (k + 1)) = val (l.take k) + 65536 ^ k * rd l (k : Int) := by
 rcases Nat.lt_or_ge k l.length with h | h
 ·
  exact take_val l k h
 rw [take_far l k h, rd_out h, Int.mul_zero, Int.add_zero]
theorem mul_round (row lb : List Int) (i k : Nat) (p c : Int) (hl : row.length = i + k) (h : val (row ++ [c]) = 65536 ^ i * (p * val (lb.take k))) :
  val ((row ++ [(p * rd lb (k : Int) + c) % 65536]) ++ [(p * rd lb (k : Int) + c) / 65536]) = 65536 ^ i * (p * val (lb.take (k + 1))) := by
 rw [List.append_assoc, List.singleton_append, val_two]
 rw [show (p * rd lb (k : Int) + c) % 65536 + 65536 * ((p * rd lb (k : Int) + c) / 65536) = p * rd lb (k : Int) + c by omega]
 rw [val_snoc, hl, Int.pow_add] at *
 rw [take_any]
 grind
theorem mul_zeros (k : Nat) (lb : List Int) (p : Int) : val (List.replicate k 0 ++ [0]) = 65536 ^ k * (p * val (lb.take 0)) := by
 have h : ∀ k : Nat, val (List.replicate k 0) = 0 := by
  intro k
  induction k with
  | zero => rfl
  | succ k ih => rw [List.replicate_succ, val, ih]; rfl
 rw [val_snoc0, h]
 simp [val]
theorem mul_in {p q c : Int} (hp : 0 ≤ p ∧ p < 65536) (hq : 0 ≤ q ∧ q < 65536) (hc : 0 ≤ c ∧ c < 65536) : 0 ≤ p * q ∧ p * q + c < 4294967296 := by
 have h0 := Int.mul_nonneg hp.1 hq.1
 have h1 : p * q ≤ 65535 * q := Int.mul_le_mul_of_nonneg_right (by omega) hq.1
 generalize p * q = X at h0 h1 ⊢
 omega
theorem meas {i k : Nat} (h : k < i) : i - (k + 1) < i - k := by omega
theorem ne_of {v u : Value} {N : Nat} (hv : ∃ b, v.ownBlock = some b ∧ N ≤ b) (hu : ∀ k, u.ownBlock = some k → k < N) : v.ownBlock ≠ u.ownBlock := by
 intro e
 obtain ⟨b, h1, h2⟩ := hv
 rw [h1] at e
 have := hu b e.symm
 omega
theorem at_of {v v1 : Value} {N M : Nat} (h : v1.ownBlock = v.ownBlock ∨ ∃ b, v1.ownBlock = some b ∧ M ≤ b) (hv : ∃ b, v.ownBlock = some b ∧ N ≤ b) (hm : N ≤ M) : ∃ b, v1.ownBlock = some b ∧ N ≤ b := by
 rcases h with h | ⟨b, h1, h2⟩
 ·
  rw [h]
  exact hv
 exact ⟨b, h1, Nat.le_trans hm h2⟩
theorem sum_g (a b : List Int) (m : Nat) (hd : Dg a) (he : Dg b) (ha : a.length ≤ m) (hb : b.length ≤ m) (hm : m ≤ 1000) :
  ∃ s, aneroidref01_sum.f (2 * m + 4) a b = some s ∧ Dg s ∧ s.length ≤ m + 1 ∧ val s = val a + val b := by
 obtain ⟨s, e, hs, hl, hv⟩ := sum_run a b hd he m 0 [] 0 (by omega) (by omega) rfl (by omega) (by omega) Dg.nil
 exact ⟨s, e, hs, hl, by rw [hv]; simp⟩
set_option maxRecDepth 100000 in
set_option maxHeartbeats 4000000 in
theorem mul_any (w : World) (va vb : Value) (a b : Int) (hva : IsBig w va a) (hvb : IsBig w vb b) (ha : Small a) (hb : Small b) (ha0 : 0 ≤ a) (hb0 : 0 ≤ b) :
  Calls Tryz.prog 32 #[va, vb] w fun e w' => ∃ v, e = .returned v ∧ IsBig w' v (a * b) ∧ Below w.heap.size w w' := by
 obtain ⟨na, la, A, ca, rfl, hCa, hca, hda, hna, hza, hpa⟩ := hva
 obtain ⟨nb, lb, B, cb, rfl, hCb, hcb, hdb, hnb, hzb, hpb⟩ := hvb
 have hla : la.length ≤ 5 := big_len hda hna (by unfold Small at ha; cases na <;> simp at hza <;> omega)
 have hlb : lb.length ≤ 5 := big_len hdb hnb (by unfold Small at hb; cases nb <;> simp at hzb <;> omega)
 obtain rfl : na = false := by
  cases na with
  | false => rfl
  | true => have := hpa rfl; simp at hza; omega
 obtain rfl : nb = false := by
  cases nb with
  | false => rfl
  | true => have := hpb rfl; simp at hzb; omega
 have HCA := am hCa
 have HDA := am hda
 have HLA := am hca
 have HCB := am hCb
 have HDB := am hdb
 have HLB := am hcb
 have HZ := am (show val la * val lb = a * b by rw [hza, hzb]; simp)
 have HL5 := am hla
 have HM5 := am hlb
 clear hCa hca hda hna hza hpa hCb hcb hdb hnb hzb hpb ha hb ha0 hb0 hla hlb
 go_enter Tryz.func32, Tryz.ntmps32
 go_upto_region 1 with fail
 obtain ⟨x2, x3, x4, hB⟩ := blocks3 w #[.bool false, .slice A la.length ca] #[.bool false, .slice B lb.length cb] #[.bool false, .slice none 0 0] 85 85 85
 generalize ((w.alloc (.cells #[.bool false, .slice A la.length ca] 85)).alloc (.cells #[.bool false, .slice B lb.length cb] 85)).alloc (.cells #[.bool false, .slice none 0 0] 85) = w1 at x2 x3 x4 hB ⊢
 obtain ⟨b2, h2⟩ := e_x (w.heap.size)
 obtain ⟨b3, h3⟩ := e_x (w.heap.size + 1)
 obtain ⟨b4, h4⟩ := e_x (w.heap.size + 1 + 1)
 have g4 : w.heap.size ≤ b4 := by omega
 have d24 : b2 ≠ b4 := by omega
 have d34 : b3 ≠ b4 := by omega
 rw [← h4, ← h3, ← h2]
 rw [← h4] at x4
 rw [← h3] at x3
 rw [← h2] at x2
 have HX2 := am x2
 have HX3 := am x3
 have HX4 := am x4
 have HB := am hB
 clear x2 x3 x4 hB h2 h3 h4
 go_wp2_with (first
  | ((with_reducible refine gate_dst (N := 12) rfl ?_); refine Kd.R_lit (Kd.int .u64) (w0 := w) w.heap.size 122 rfl (N := 12) rfl (xs := ([] : List Int)) (inner := []) (ok := fun _ => True) (okp := fun _ => True) ?hr (Reps.none _ _) (fun _ hk => hk) trivial HB.out HB.out.size (by simp) ?_; (case hr => first | (go_simp; done) | (go_simp; rfl)); intro v12 w2 ho hb hg hat; have HO := am ho; replace HX2 := am (blk_grown HX2.out hg (by simp)); replace HX3 := am (blk_grown HX3.out hg (by simp)); replace HX4 := am (blk_grown HX4.out hg (by simp)); replace HB := am hb; clear ho hb hg hat))
 go_loopw [5, 6] (fun v5 v6 wr => ∃ (i : Nat) (out : List Int), i ≤ la.length ∧ v6 = .int .i64 i ∧ Aside0 (out.length ≤ i + lb.length + 2) ∧ Aside0 (Dg out) ∧ Aside0 (val out = val (la.take i) * val lb) ∧ Aside0 (Kd.R (Kd.int .u64) 122 wr w.heap.size (fun _ => True) v5 out) ∧ Aside0 (wr.heap[b2]? = some (.cells #[.bool false, .slice A la.length ca] 85 (0, 0))) ∧ Aside0 (wr.heap[b3]? = some (.cells #[.bool false, .slice B lb.length cb] 85 (0, 0))) ∧ Aside0 (wr.heap[b4]? = some (.cells #[.bool false, .slice none 0 0] 85 (0, 0))) ∧ Aside0 (Below w.heap.size w wr)) (fun _ v6 _ => la.length - (intOf v6).toNat)
 case atStart => exact ⟨0, [], Nat.zero_le _, rfl, ⟨by simp⟩, ⟨Dg.nil⟩, ⟨by simp [val]⟩, HO, HX2, HX3, HX4, HB⟩
 case round =>
  clear HO HX2 HX3 HX4 HB
  obtain ⟨i, out, hi, rfl, HLO, HDO, HVO, HO, HX2, HX3, HX4, HB⟩ := hrel
  have x21 := b_l HX2 1 rfl
  by_cases hlt : i < la.length
  ·
   have q0 : decide ((i : Int) < (la.length : Int)) = true := decide_eq_true (by omega)
   have HN := am (Kd.R_lt HO.out)
   obtain ⟨NB, hNB⟩ : ∃ n, n = wr.heap.size := ⟨_, rfl⟩
   rw [← hNB] at HN
   go_wp2_with (first
    | ((with_reducible refine gate_dst (N := 20) rfl ?_); refine Kd.R_lit (Kd.int .u64) (w0 := w) w.heap.size 122 rfl (N := 20) rfl (xs := ([] : List Int)) (inner := []) (ok := fun _ => True) (okp := fun _ => True) ?hr (Reps.none _ _) (fun _ hk => hk) trivial HB.out HB.out.size (by simp) ?_; (case hr => first | (go_simp; done) | (go_simp; rfl)); intro v20 w3 ho hb hg hat; have HR := am ho; replace HO := am (Kd.R_grown HO.out hg (fun k _ => by simp)); replace HX2 := am (blk_grown HX2.out hg (by simp)); replace HX3 := am (blk_grown HX3.out hg (by simp)); replace HX4 := am (blk_grown HX4.out hg (by simp)); replace HB := am hb; rw [← hNB] at hat; have HT := am hat; have HB3 := am (show NB ≤ w3.heap.size by rw [hNB]; exact hg.size); clear ho hb hg hat))
   have HNB := am (Nat.le_refl NB)
   clear hNB x21
   go_loopw [7, 8] (fun v7 v8 wr => ∃ k : Nat, k ≤ i ∧ v8 = .int .i64 k ∧ Aside0 (Kd.R (Kd.int .u64) 122 wr w.heap.size (fun _ => True) v7 (List.replicate k 0)) ∧ Aside0 (∃ b, v7.ownBlock = some b ∧ NB ≤ b) ∧ Aside0 (NB ≤ wr.heap.size) ∧ Aside0 (Kd.R (Kd.int .u64) 122 wr w.heap.size (fun _ => True) u5 out) ∧ Aside0 (wr.heap[b2]? = some (.cells #[.bool false, .slice A la.length ca] 85 (0, 0))) ∧ Aside0 (wr.heap[b3]? = some (.cells #[.bool false, .slice B lb.length cb] 85 (0, 0))) ∧ Aside0 (wr.heap[b4]? = some (.cells #[.bool false, .slice none 0 0] 85 (0, 0))) ∧ Aside0 (Below w.heap.size w wr)) (fun _ v8 _ => i - (intOf v8).toNat)
   case atStart => exact ⟨0, Nat.zero_le _, rfl, HR, HT, HB3, HO, HX2, HX3, HX4, HB⟩
   case round =>
    clear HR HT HB3 HO HX2 HX3 HX4 HB
    obtain ⟨k, hk, rfl, HR, HT, HB3, HO, HX2, HX3, HX4, HB⟩ := hrel
    by_cases hki : k < i
    ·
     have q1 : decide ((k : Int) < (i : Int)) = true := decide_eq_true (by omega)
     have q2 : wrap64 ((k : Int) + 1) = ((k + 1 : Nat) : Int) := cast_succ k (by have := HL5.out; omega)
     have LIM := am (lim8 (List.replicate k (0 : Int)).length (by have := HL5.out; simp; omega))
     go_wp2_with (first
      | ((with_reducible refine gate_builtin (b := .append) (xs := #[.tmp 26, .tmp 27]) rfl ?_); at_builtin; refine Kd.R_append (Kd.int .u64) (w0 := w) w.heap.size rfl (.tmp 26) (.tmp 27) 83 122 (.int .u64 0) 8 rfl Tryz.underlying83 info122 rfl (by decide) (by decide) u7 (List.replicate k 0) (0) [.int .u64 (0)] (fun _ => True) (fun _ => False) rfl rfl rfl (fun _ hk => hk.elim) (fun _ _ => trivial) HR.out HB.out HB.out.size LIM.out ?_; intro v28 w12 ho hb hg hat; have HO2 := am (Kd.R_grown1 HO.out rfl hg (ne_of HT.out HN.out)); have HX22 := am (blk_grown HX2.out hg (Kd.R_ne HR.out HX2.out (by decide))); have HX32 := am (blk_grown HX3.out hg (Kd.R_ne HR.out HX3.out (by decide))); have HX42 := am (blk_grown HX4.out hg (Kd.R_ne HR.out HX4.out (by decide))); have HR2 := am ho; have HB2 := am hb; have HT2 := am (at_of hat HT.out (Nat.le_trans HNB.out HB3.out)); have HB32 := am (Nat.le_trans HB3.out hg.size); clear ho hb hg hat))
     go_roundw
     case rel => exact ⟨k + 1, hki, by rw [q2], ⟨by rw [List.replicate_succ']; exact HR2.out⟩, HT2, HB32, HO2, HX22, HX32, HX42, HB2⟩
     case measure =>
      rw [q2]
      simp only [intOf, Int.toNat_natCast]
      exact meas hki
    have hk2 : k = i := by omega
    subst hk2
    have q1 : decide ((k : Int) < (k : Int)) = false := decide_eq_false (by omega)
    have HVR0 := am (mul_zeros k lb (rd la (k : Int)))
    have HLR0 := am (show (List.replicate k (0 : Int)).length = k + 0 by simp)
    have HDR0 : Aside0 (Dg (List.replicate k (0 : Int))) := ⟨fun x hx => by have := List.eq_of_mem_replicate hx; subst this; decide⟩
    go_wp2_with fail
    go_loopw [7, 9, 10] (fun v7 v9 v10 wr => ∃ (j : Nat) (c : Int) (row : List Int), j ≤ lb.length + 1 ∧ v10 = .int .i64 j ∧ v9 = .int .u64 c ∧ (0 ≤ c ∧ c < 65536) ∧ (j = lb.length + 1 → c = 0) ∧ Aside0 (Dg row) ∧ Aside0 (row.length = k + j) ∧ Aside0 (val (row ++ [c]) = 65536 ^ k * (rd la (k : Int) * val (lb.take j))) ∧
     Aside0 (Kd.R (Kd.int .u64) 122 wr w.heap.size (fun _ => True) v7 row) ∧ Aside0 (∃ b, v7.ownBlock = some b ∧ NB ≤ b) ∧ Aside0 (NB ≤ wr.heap.size) ∧ Aside0 (Kd.R (Kd.int .u64) 122 wr w.heap.size (fun _ => True) u5 out) ∧ Aside0 (wr.heap[b2]? = some (.cells #[.bool false, .slice A la.length ca] 85 (0, 0))) ∧ Aside0 (wr.heap[b3]? = some (.cells #[.bool false, .slice B lb.length cb] 85 (0, 0))) ∧ Aside0 (wr.heap[b4]? = some (.cells #[.bool false, .slice none 0 0] 85 (0, 0))) ∧ Aside0 (Below w.heap.size w wr)) (fun _ _ v10 _ => lb.length + 1 - (intOf v10).toNat)
    case atStart => exact ⟨0, 0, List.replicate k 0, Nat.zero_le _, rfl, rfl, by decide, fun h => rfl, HDR0, HLR0, HVR0, HR, HT, HB3, HO, HX2, HX3, HX4, HB⟩
    case round =>
     clear HR HT HB3 HO HX2 HX3 HX4 HB HVR0 HLR0 HDR0 q1
     obtain ⟨j, c, row, hj, rfl, rfl, hc, hj0, HDR, HLR, HVR, HR, HT, HB3, HO, HX2, HX3, HX4, HB⟩ := hrel
     have x31 := b_l HX3 1 rfl
     by_cases hgo : j < lb.length ∨ 0 < c
     ·
      have hk5 : k + j ≤ 1000 := by have := HL5.out; have := HM5.out; omega
      have LIM := am (lim8 row.length (by rw [HLR.out]; exact hk5))
      have hj7 : j < 1000000 := by omega
      clear hk5
      have hj5 : j ≤ lb.length := by
       rcases Nat.lt_or_ge lb.length j with h | h
       ·
        have := hj0 (by omega)
        omega
       exact h
      have q3 : decide ((j : Int) < (lb.length : Int)) = false → decide (0 < c) = true := fun h => by
       have := of_decide_eq_false h
       exact decide_eq_true (by omega)
      have p0 : (0 : Int) ≤ (k : Int) := Int.natCast_nonneg _
      have p1 : (k : Int) < (la.length : Int) := by omega
      obtain ⟨ad, rfl, hx⟩ := Kd.at_int HCA.out (k : Int) p0 p1
      rw [Int.toNat_natCast] at hx
      obtain ⟨p, hp⟩ : ∃ p, p = rd la (k : Int) := ⟨_, rfl⟩
      obtain ⟨q, hq⟩ : ∃ q, q = rd lb (j : Int) := ⟨_, rfl⟩
      have hpr := HDA.out.rd k
      have hqr := HDB.out.rd j
      have hq0 : j = lb.length → q = 0 := fun h => by rw [hq]; exact rd_out (by omega)
      have hdig := digit_f lb j
      rw [← hp] at hx hpr
      rw [← hq] at hqr hdig
      have hin := mul_in hpr hqr hc
      have m1 : IntKind.u64.wrap (p * q) = p * q := u64 hin.1 (by omega)
      obtain ⟨X, hX⟩ : ∃ X, X = p * q + c := ⟨_, rfl⟩
      have m2 : IntKind.u64.wrap (p * q + c) = X := by rw [hX]; exact u64 (by omega) (by omega)
      have hX0 : 0 ≤ X ∧ X < 4294967296 := by rw [hX]; omega
      have hXz : j + 1 = lb.length + 1 → X / 65536 = 0 := fun h => by
       rw [hX, hq0 (by omega), Int.mul_zero, Int.zero_add]
       omega
      have m3 : Int.tmod X 65536 = X % 65536 := Int.tmod_eq_emod_of_nonneg hX0.1
      have m4 : Int.tdiv X 65536 = X / 65536 := Int.tdiv_eq_ediv_of_nonneg hX0.1
      have m5 : IntKind.u64.wrap (X / 65536) = X / 65536 := u64 (by omega) (by omega)
      have hXX : 0 ≤ X / 65536 ∧ X / 65536 < 65536 := by omega
      have hXm : 0 ≤ X % 65536 ∧ X % 65536 < 65536 := by omega
      have q4 : wrap64 ((j : Int) + 1) = ((j + 1 : Nat) : Int) := cast_succ j hj7
      have HDR2 := am (HDR.out.append (Dg.one hXm.1 hXm.2))
      have HLR2 := am (show (row ++ [X % 65536]).length = k + (j + 1) by rw [List.length_append, HLR.out]; rfl)
      have HVR2 : Aside0 (val ((row ++ [X % 65536]) ++ [X / 65536]) = 65536 ^ k * (p * val (lb.take (j + 1)))) := ⟨by
       have h := mul_round row lb k j (rd la (k : Int)) c HLR.out HVR.out
       rw [← hp, ← hq, ← hX] at h
       exact h⟩
      have HXZ := am hXz
      have HXX := am hXX
      have HE := am hx
      have HDI := am hdig
      have hj6 : j + 1 ≤ lb.length + 1 := Nat.succ_le_succ hj5
      have hjm : j < lb.length + 1 := Nat.lt_succ_of_le hj5
      have PP := am hp
      clear hX hq0 hdig hin hX0 hXz hXX hXm hx hq HVR HDR hpr hqr hgo hj0 hp
      have p2 := eq_true p0
      have p3 := eq_true p1
      by_cases hjl : j < lb.length
      ·
       have q1 : decide ((j : Int) < (lb.length : Int)) = true := decide_eq_true (Int.ofNat_lt.2 hjl)
       clear q3
       go_upto_region 14 with fail
       refine s_t 13 (fun w' => w'.cell? ⟨b2, 1, none⟩ = some (.slice (some ad) la.length ca) ∧ w'.cell? ⟨b3, 1, none⟩ = some (.slice B lb.length cb) ∧ w'.cell? (ad.add k) = some (.int .u64 p)) ⟨(blk_cell HX2.out 1).trans rfl, (blk_cell HX3.out 1).trans rfl, pw_cell_below HB.out HE.out⟩ (fun hHeld => ?_)
       replace HX2 := b_d HX2
       replace HX3 := b_d HX3
       replace HX4 := b_d HX4
       replace HB := am (below_drew HB.out)
       replace HR := am (Kd.R_drew HR.out)
       replace HO := am (Kd.R_drew HO.out)
       replace HB3 := am (show NB ≤ wr.drew.heap.size from HB3.out)
       generalize wr.drew = Wd at HX2 HX3 HX4 HB HR HO HB3 hHeld ⊢
       refine p_u 0 40 13 1 ?_
       refine t_a 1 41 13 3 hHeld ?_ (hv := by rintro w' ⟨s0, s1, s2⟩; go_simp; with_reducible rfl)
       refine p_u 2 42 13 7 ?_
       refine p_u 3 43 13 15 ?_
       refine t_a 4 44 13 31 hHeld ?_ (hv := by rintro w' ⟨s0, s1, s2⟩; go_simp; with_reducible rfl)
       refine p_u 5 45 13 63 ?_
       refine t_a 6 46 13 127 hHeld ?_ (hv := by rintro w' ⟨s0, s1, s2⟩; go_simp; with_reducible rfl)
       refine p_u 7 47 13 255 ?_
       refine p_u 10 50 13 1279 ?_
       refine o_n 8 48 13 1535 fun K hK => ?_
       refine g_s Tryz.func81 #[.slice B lb.length cb, .int .i64 j] ?_
       refine (aneroidref01_digit.calls B cb lb (j : Int) q Wd (Kd.C_below HCB.out HB.out) HLB.out HDI.out).mono ?_
       rintro e We ⟨rfl, hd⟩
       have hb := hd.below
       clear hd
       replace HX2 := b_b HX2 hb
       replace HX3 := b_b HX3 hb
       replace HX4 := b_b HX4 hb
       replace HB := b_s HB hb
       replace HR := am (Kd.R_below HR.out hb)
       replace HO := am (Kd.R_below HO.out hb)
       replace HB3 := am (Nat.le_trans HB3.out hb.size)
       clear hb hHeld
       refine ⟨_, rfl, ?_⟩
       refine hK.out _ _ ⟨(blk_cell HX2.out 1).trans rfl, (blk_cell HX3.out 1).trans rfl, pw_cell_below HB.out HE.out⟩ (fun hHeld => ?_)
       clear hK K
       refine n_o 48 ?_
       refine p_u 9 49 13 2047 ?_
       refine p_u 11 51 13 4095 ?_
       refine p_u 12 11 13 8191 ?_
       refine d_n ?_
       clear hHeld
       go_upto_region 13 with (first
        | ((with_reducible refine gate_builtin (b := .append) (xs := #[.tmp 52, .tmp 55]) rfl ?_); at_builtin; refine Kd.R_append (Kd.int .u64) (w0 := w) w.heap.size rfl (.tmp 52) (.tmp 55) 83 122 (.int .u64 0) 8 rfl Tryz.underlying83 info122 rfl (by decide) (by decide) u7 row (X % 65536) [.int .u64 (X % 65536)] (fun _ => True) (fun _ => False) rfl rfl rfl (fun _ hk => hk.elim) (fun _ _ => trivial) HR.out HB.out HB.out.size LIM.out ?_; intro v56 w12 ho hb hg hat; have HO2 := am (Kd.R_grown1 HO.out rfl hg (ne_of HT.out HN.out)); have HX22 := am (blk_grown HX2.out hg (Kd.R_ne HR.out HX2.out (by decide))); have HX32 := am (blk_grown HX3.out hg (Kd.R_ne HR.out HX3.out (by decide))); have HX42 := am (blk_grown HX4.out hg (Kd.R_ne HR.out HX4.out (by decide))); have HR2 := am ho; have HB2 := am hb; have HT2 := am (at_of hat HT.out (Nat.le_trans HNB.out HB3.out)); have HB32 := am (Nat.le_trans HB3.out hg.size); clear ho hb hg hat))
       clear m1 m2 m3 m4 m5
       go_wp2_with fail
       go_roundw
       case rel => exact ⟨j + 1, X / 65536, row ++ [X % 65536], hj6, rfl, rfl, HXX.out, HXZ.out, HDR2, HLR2, by rw [← PP.out]; exact HVR2, HR2, HT2, HB32, HO2, HX22, HX32, HX42, HB2⟩
       case measure =>
        show lb.length + 1 - (((j + 1 : Nat) : Int)).toNat < lb.length + 1 - ((j : Nat) : Int).toNat
        simp only [Int.toNat_natCast]
        exact meas hjm
      have q1 : decide ((j : Int) < (lb.length : Int)) = false := decide_eq_false (fun h => hjl (Int.ofNat_lt.1 h))
      replace q3 := q3 q1
      go_upto_region 14 with fail
      refine s_t 13 (fun w' => w'.cell? ⟨b2, 1, none⟩ = some (.slice (some ad) la.length ca) ∧ w'.cell? ⟨b3, 1, none⟩ = some (.slice B lb.length cb) ∧ w'.cell? (ad.add k) = some (.int .u64 p)) ⟨(blk_cell HX2.out 1).trans rfl, (blk_cell HX3.out 1).trans rfl, pw_cell_below HB.out HE.out⟩ (fun hHeld => ?_)
      replace HX2 := b_d HX2
      replace HX3 := b_d HX3
      replace HX4 := b_d HX4
      replace HB := am (below_drew HB.out)
      replace HR := am (Kd.R_drew HR.out)
      replace HO := am (Kd.R_drew HO.out)
      replace HB3 := am (show NB ≤ wr.drew.heap.size from HB3.out)
      generalize wr.drew = Wd at HX2 HX3 HX4 HB HR HO HB3 hHeld ⊢
      refine p_u 0 40 13 1 ?_
      refine t_a 1 41 13 3 hHeld ?_ (hv := by rintro w' ⟨s0, s1, s2⟩; go_simp; with_reducible rfl)
      refine p_u 2 42 13 7 ?_
      refine p_u 3 43 13 15 ?_
      refine t_a 4 44 13 31 hHeld ?_ (hv := by rintro w' ⟨s0, s1, s2⟩; go_simp; with_reducible rfl)
      refine p_u 5 45 13 63 ?_
      refine t_a 6 46 13 127 hHeld ?_ (hv := by rintro w' ⟨s0, s1, s2⟩; go_simp; with_reducible rfl)
      refine p_u 7 47 13 255 ?_
      refine p_u 10 50 13 1279 ?_
      refine o_n 8 48 13 1535 fun K hK => ?_
      refine g_s Tryz.func81 #[.slice B lb.length cb, .int .i64 j] ?_
      refine (aneroidref01_digit.calls B cb lb (j : Int) q Wd (Kd.C_below HCB.out HB.out) HLB.out HDI.out).mono ?_
      rintro e We ⟨rfl, hd⟩
      have hb := hd.below
      clear hd
      replace HX2 := b_b HX2 hb
      replace HX3 := b_b HX3 hb
      replace HX4 := b_b HX4 hb
      replace HB := b_s HB hb
      replace HR := am (Kd.R_below HR.out hb)
      replace HO := am (Kd.R_below HO.out hb)
      replace HB3 := am (Nat.le_trans HB3.out hb.size)
      clear hb hHeld
      refine ⟨_, rfl, ?_⟩
      refine hK.out _ _ ⟨(blk_cell HX2.out 1).trans rfl, (blk_cell HX3.out 1).trans rfl, pw_cell_below HB.out HE.out⟩ (fun hHeld => ?_)
      clear hK K
      refine n_o 48 ?_
      refine p_u 9 49 13 2047 ?_
      refine p_u 11 51 13 4095 ?_
      refine p_u 12 11 13 8191 ?_
      refine d_n ?_
      clear hHeld
      go_upto_region 13 with (first
       | ((with_reducible refine gate_builtin (b := .append) (xs := #[.tmp 52, .tmp 55]) rfl ?_); at_builtin; refine Kd.R_append (Kd.int .u64) (w0 := w) w.heap.size rfl (.tmp 52) (.tmp 55) 83 122 (.int .u64 0) 8 rfl Tryz.underlying83 info122 rfl (by decide) (by decide) u7 row (X % 65536) [.int .u64 (X % 65536)] (fun _ => True) (fun _ => False) rfl rfl rfl (fun _ hk => hk.elim) (fun _ _ => trivial) HR.out HB.out HB.out.size LIM.out ?_; intro v56 w12 ho hb hg hat; have HO2 := am (Kd.R_grown1 HO.out rfl hg (ne_of HT.out HN.out)); have HX22 := am (blk_grown HX2.out hg (Kd.R_ne HR.out HX2.out (by decide))); have HX32 := am (blk_grown HX3.out hg (Kd.R_ne HR.out HX3.out (by decide))); have HX42 := am (blk_grown HX4.out hg (Kd.R_ne HR.out HX4.out (by decide))); have HR2 := am ho; have HB2 := am hb; have HT2 := am (at_of hat HT.out (Nat.le_trans HNB.out HB3.out)); have HB32 := am (Nat.le_trans HB3.out hg.size); clear ho hb hg hat))
      clear m1 m2 m3 m4 m5
      go_wp2_with fail
      go_roundw
      case rel => exact ⟨j + 1, X / 65536, row ++ [X % 65536], hj6, rfl, rfl, HXX.out, HXZ.out, HDR2, HLR2, by rw [← PP.out]; exact HVR2, HR2, HT2, HB32, HO2, HX22, HX32, HX42, HB2⟩
      case measure =>
       show lb.length + 1 - (((j + 1 : Nat) : Int)).toNat < lb.length + 1 - ((j : Nat) : Int).toNat
       simp only [Int.toNat_natCast]
       exact meas hjm
     have q1 : decide ((j : Int) < (lb.length : Int)) = false := decide_eq_false (by omega)
     have q3 : decide (0 < c) = false := decide_eq_false (by omega)
     have hc0 : c = 0 := by omega
     subst hc0
     have HVF := am (show val row = 65536 ^ k * (rd la (k : Int) * val lb) by
      have h := HVR.out
      rw [val_snoc0, List.take_of_length_le (by omega)] at h
      exact h)
     clear HVR
     obtain ⟨A5, c5, rfl⟩ := Kd.R_slice HO.out
     obtain ⟨A7, c7, rfl⟩ := Kd.R_slice HR.out
     obtain ⟨m, hm⟩ : ∃ m, m = k + lb.length + 2 := ⟨_, rfl⟩
     have hm1 : out.length ≤ m := by rw [hm]; exact HLO.out
     have hm2 : row.length ≤ m := by rw [hm, HLR.out]; omega
     have hm3 : m ≤ 1000 := by have := HM5.out; have := HL5.out; omega
     obtain ⟨s, hf, hds, hls, hvs⟩ := sum_g out row m HDO.out HDR.out hm1 hm2 hm3
     have HLS := am (show s.length ≤ (k + 1) + lb.length + 2 by omega)
     have HDS := am hds
     have HVS : Aside0 (val s = val (la.take (k + 1)) * val lb) := ⟨by
      rw [hvs, HVO.out, HVF.out, take_any]
      grind⟩
     have q5 : wrap64 ((k : Int) + 1) = ((k + 1 : Nat) : Int) := cast_succ k (by omega)
     have hk7 : k + 1 ≤ la.length := hlt
     clear hm1 hm2 hm3 hm hds hls hvs
     go_wp2_with fail
     refine (aneroidref01_sum.calls _ A5 c5 out A7 c7 row s wr (Kd.R_reads' HO.out).2.2 (Kd.R_reads' HO.out).2.1 (Kd.R_reads' HR.out).2.2 (Kd.R_reads' HR.out).2.1 hf).mono ?_
     rintro e w9 ⟨v9, rfl, ho, hb⟩
     have HS9 := am (Kd.R_lower ho HB.out.size)
     replace HX2 := b_b HX2 hb
     replace HX3 := b_b HX3 hb
     replace HX4 := b_b HX4 hb
     replace HB := b_s HB hb
     clear ho hb hf
     go_wp2_with fail
     go_roundw
     case rel => exact ⟨k + 1, s, hk7, by rw [q5], HLS, HDS, HVS, HS9, HX2, HX3, HX4, HB⟩
     case measure =>
      rw [q5]
      simp only [intOf, Int.toNat_natCast]
      exact meas hlt
  have hi2 : i = la.length := by omega
  subst hi2
  have HVZ := am (show val out = a * b by rw [HVO.out, List.take_length, HZ.out])
  have hlo : out.length ≤ 2000 := by have := HLO.out; have := HM5.out; have := HL5.out; omega
  obtain ⟨A5, c5, rfl⟩ := Kd.R_slice HO.out
  have x20 := b_l HX2 0 rfl
  have x30 := b_l HX3 0 rfl
  go_wp2_with fail
  refine (cut_any wr false A5 c5 out (Kd.R_reads' HO.out).2.2 (Kd.R_reads' HO.out).2.1 HDO.out hlo).mono ?_
  rintro e w2 ⟨v, rfl, hv, hb⟩
  rw [if_neg (by decide), HVZ.out] at hv
  replace HX4 := b_b HX4 hb
  replace HB := b_s HB hb
  clear hb HO HX2 HX3 x20 x30 x21
  obtain ⟨ng, A7, n7, c7, rfl⟩ := hv.form
  have HV := am hv
  have c0 := b_l HX4 0 rfl
  have c1 := b_l HX4 1 rfl
  have f0 := b_z HX4 0
  have f1 := b_z HX4 1
  clear hv
  go_wp2_with fail
  obtain ⟨r0, r1, hv, hB⟩ := store_big HX4.out g4 HB.out HV.out
  generalize (w2.setCell ⟨b4, 0, none⟩ (.bool ng)).setCell ⟨b4, 1, none⟩ (.slice A7 n7 c7) = W at r0 r1 hv hB ⊢
  clear c0 c1 f0 f1
  refine ⟨rfl, .agg #[.bool ng, .slice A7 n7 c7], ?_, _, rfl, hv, hB⟩
  simp [results, Tryz.results32, go_sem, r0, r1]
end Go.Proofs.YtpdahkgandaabaaGreatDoor.Bg
