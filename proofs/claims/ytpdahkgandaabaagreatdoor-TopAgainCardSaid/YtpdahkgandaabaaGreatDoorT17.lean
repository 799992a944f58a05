/- A part of the proof of TopAgain, where the package's tables hold what their initialisers lay. -/
import Derived.Test.YtpdahkgandaabaaGreatDoorT01
import Derived.Test.YtpdahkgandaabaaGreatDoorT16
namespace Go.Proofs.YtpdahkgandaabaaGreatDoor.Ch
open Go.RowKit Go.Proofs.YtpdahkgandaabaaGreatDoorW.PrintWords Go.Proofs.YtpdahkgandaabaaGreatDoorW.PrintLast Go.Proofs.YtpdahkgandaabaaGreatDoorW.PrintMore Go.Proofs.YtpdahkgandaabaaGreatDoor.PTopNames Go.Proofs.YtpdahkgandaabaaGreatDoor.Al
set_option linter.unusedVariables false
set_option linter.unusedSimpArgs false
set_option maxRecDepth 100000 in
set_option maxHeartbeats 4000000 in
theorem split_tells (h l b : Int) (hl : U l) : ∃ h' l' r e, U l' ∧ Tells 160 #[wide h l, b] (.tuple #[wide h' l', .int .u64 r, .int .i64 e]) := by
 obtain ⟨qh, ql, r, uq, hp⟩ := parts_tells h l (sz b) hl
 obtain ⟨nh, nl, un, hL⟩ := less_tells 0 0 qh ql ⟨by decide, by decide⟩ uq
 obtain ⟨mh, ml, um, hM⟩ := less_tells nh nl 0 1 un ⟨by decide, by decide⟩
 obtain ⟨T, hT⟩ : ∃ T, T = (if b = 0 then ((0, 0, 0, 4) : Int × Int × Int × Int) else if h = -9223372036854775808 ∧ l = 0 ∧ b = -1 then (0, 0, 0, 3) else if h < 0 ↔ b < 0 then (qh, ql, r, 0) else if 0 < r then (mh, ml, IntKind.u64.wrap (sz b - r), 0) else (nh, nl, r, 0)) := ⟨_, rfl⟩
 have hu : U T.2.1 := by
  rw [hT]
  split
  ·
   exact ⟨by decide, by decide⟩
  split
  ·
   exact ⟨by decide, by decide⟩
  split
  ·
   exact uq
  split
  ·
   exact um
  exact un
 have HP := am hp
 have HL := am hL
 have HM := am hM
 have HT := am hT
 clear hp hL hM hl hT
 unfold wide at HP HL HM ⊢
 refine ⟨T.1, T.2.1, T.2.2.1, T.2.2.2, hu, fun w hG => ?_⟩
 clear hu
 have HG := am hG
 clear hG
 go_enter Tryz.func160, Tryz.ntmps160
 go_upto_region 1 with fail
 have hu124 := Tryz.underlying124
 obtain ⟨x2', x4', hB⟩ := blocks2 w #[h, .int .u64 l] #[(), .int .u64 0] 124 124
 generalize (w.alloc (.cells #[h, .int .u64 l] 124)).alloc (.cells #[(), .int .u64 0] 124) = w1 at x2' x4' hB ⊢
 obtain ⟨b2, h2⟩ := e_x (w.heap.size)
 obtain ⟨b4, h4⟩ := e_x (w.heap.size + 1)
 have g2 : w.heap.size ≤ b2 := by omega
 have g4 : w.heap.size ≤ b4 := by omega
 have n2_4 : b2 ≠ b4 := by omega
 have n4_2 : b4 ≠ b2 := by omega
 rw [← h4, ← h2]
 rw [← h4] at x4'
 rw [← h2] at x2'
 have H2 := am x2'
 have H4 := am x4'
 have HB := am hB
 clear x2' x4' hB h2 h4
 have y20 := b_l H2 0 rfl
 have y21 := b_l H2 1 rfl
 have y40 := b_l H4 0 rfl
 have f40 := b_z H4 0
 have y41 := b_l H4 1 rfl
 have f41 := b_z H4 1
 have n0 := (HG.out.below HB.out).none0
 have n1 := (HG.out.below HB.out).none1
 have m0 := (HG.out.below HB.out).least0
 have m1 := (HG.out.below HB.out).least1
 by_cases c0 : b = 0
 ·
  subst c0
  obtain rfl := HT.out.trans (if_pos rfl)
  go_wp2_with fail
  obtain ⟨q, qb⟩ := two_set rfl H4.out g4 HB.out (.int .i64 0) (.int .u64 0)
  exact bodyPost_ret (results_ctt rfl _ _ b4 124 _ (0, 0) _ rfl q Tryz.underlying124 rfl (by kernel_rfl)) rfl ⟨rfl, qb⟩
 have p0 : (b == 0) = false := by simp [c0]
 have p0' : decide (b = 0) = false := decide_eq_false c0
 by_cases ov : h = -9223372036854775808 ∧ l = 0 ∧ b = -1
 ·
  obtain rfl := HT.out.trans ((if_neg c0).trans (if_pos ov))
  obtain ⟨k4, k5, rfl⟩ := ov
  have k41 : (h == -9223372036854775808) = true := by simp [k4]
  have k42 : decide (h = -9223372036854775808) = true := decide_eq_true k4
  have k51 : (l == 0) = true := by simp [k5]
  have k52 : decide (l = 0) = true := decide_eq_true k5
  clear k4 k5
  go_wp2_with fail
  obtain ⟨q, qb⟩ := two_set rfl H4.out g4 HB.out (.int .i64 0) (.int .u64 0)
  exact bodyPost_ret (results_ctt rfl _ _ b4 124 _ (0, 0) _ rfl q Tryz.underlying124 rfl (by kernel_rfl)) rfl ⟨rfl, qb⟩
 have hcase : ((h == -9223372036854775808) = true ∧ decide (h = -9223372036854775808) = true ∧ (l == 0) = true ∧ decide (l = 0) = true ∧ (b == -1) = false ∧ decide (b = -1) = false) ∨ ((h == -9223372036854775808) = true ∧ decide (h = -9223372036854775808) = true ∧ (l == 0) = false ∧ decide (l = 0) = false) ∨ ((h == -9223372036854775808) = false ∧ decide (h = -9223372036854775808) = false) := by
  by_cases k4 : h = -9223372036854775808
  ·
   by_cases k5 : l = 0
   ·
    have k6 : b ≠ -1 := fun e => ov ⟨k4, k5, e⟩
    exact .inl (by simp [k4, k5, k6])
   exact .inr (.inl (by simp [k4, k5]))
  exact .inr (.inr (by simp [k4]))
 have HC0 := am c0
 have HOV := am ov
 clear c0 ov
 rcases hcase with ⟨k41, k42, k51, k52, k61, k62⟩ | ⟨k41, k42, k51, k52⟩ | ⟨k41, k42⟩
 all_goals
  go_upto_region 5 with fail
  clear y20 y21 y40 y41 f40 f41 n0 n1 m0 m1
  refine s_t 9 (fun w' => w'.heap[b2]? = some (.cells #[h, .int .u64 l] 124 (0, 0))) H2.out (fun hHeld => ?_)
  replace H2 := b_d H2
  replace H4 := b_d H4
  replace HB := am (below_drew HB.out)
  generalize w1.drew = wd at H2 H4 HB hHeld ⊢
  refine t_a 0 19 9 1 hHeld ?_ (hv := by rintro w' s0; have x0 := bcl s0 0 rfl; have x1 := bcl s0 1 rfl; go_simp; with_reducible rfl)
  refine p_u 1 20 9 3 ?_
  refine o_n 2 21 9 7 fun K hK => ?_
  refine g_s Tryz.func132 #[b] ?_
  refine (wide_size.calls b (sz b) wd (sz_f b)).mono ?_
  rintro e wa ⟨rfl, hd⟩
  have hb := hd.below
  clear hd
  replace H2 := b_b H2 hb
  replace H4 := b_b H4 hb
  replace HB := b_s HB hb
  clear hb hHeld
  refine ⟨_, rfl, ?_⟩
  refine hK.out _ _ H2.out (fun hHeld => ?_)
  clear hK K
  refine n_o 21 ?_
  refine o_n 3 22 9 15 fun K hK => ?_
  refine g_s Tryz.func161 #[.agg #[h, .int .u64 l], .int .u64 (sz b)] ?_
  refine (HP.out wa (HG.out.below HB.out)).mono ?_
  rintro e wb ⟨rfl, hb⟩
  replace H2 := b_b H2 hb
  replace H4 := b_b H4 hb
  replace HB := b_s HB hb
  clear hb hHeld
  refine ⟨_, rfl, ?_⟩
  refine hK.out _ _ H2.out (fun hHeld => ?_)
  clear hK K
  refine n_o 22 ?_
  refine p_u 4 18 9 31 ?_
  refine p_u 5 23 9 63 ?_
  refine p_u 6 24 9 127 ?_
  have y40 := b_l H4 0 rfl
  have f40 := b_z H4 0
  have y41 := b_l H4 1 rfl
  have f41 := b_z H4 1
  refine o_0 7 9 255 fun K hK => ?_
  refine s_k ((wb.setCell ⟨b4, 0, none⟩ (.int .i64 qh)).setCell ⟨b4, 1, none⟩ (.int .u64 ql)) ?_
  obtain ⟨q, qb⟩ := two_set rfl H4.out g4 HB.out (.int .i64 qh) (.int .u64 ql)
  have qo0 := blk_far (blk_far H2.out (p := ⟨b4, 0, none⟩) n2_4 (.int .i64 qh)) (p := ⟨b4, 1, none⟩) n2_4 (.int .u64 ql)
  clear hHeld y40 y41 f40 f41 H4 HB H2
  generalize (wb.setCell ⟨b4, 0, none⟩ (.int .i64 qh)).setCell ⟨b4, 1, none⟩ (.int .u64 ql) = wc at q qb qo0 ⊢
  have H4 := am q
  have HB := am qb
  have H2 := am qo0
  clear q qb qo0
  refine hK.out _ _ H2.out (fun hHeld => ?_)
  clear hK K
  refine p_u 8 5 9 511 ?_
  refine d_n ?_
  have y20 := b_l H2 0 rfl
  have y21 := b_l H2 1 rfl
  have y40 := b_l H4 0 rfl
  have f40 := b_z H4 0
  have y41 := b_l H4 1 rfl
  have f41 := b_z H4 1
  have n0 := (HG.out.below HB.out).none0
  have n1 := (HG.out.below HB.out).none1
  by_cases cs : h < 0 ↔ b < 0
  ·
   have hc2 : (decide (h < 0) = true ∧ decide (b < 0) = true) ∨ (decide (h < 0) = false ∧ decide (b < 0) = false) := by
    by_cases c1 : h < 0
    ·
     exact .inl ⟨decide_eq_true c1, decide_eq_true (cs.1 c1)⟩
    exact .inr ⟨decide_eq_false c1, decide_eq_false (fun e => c1 (cs.2 e))⟩
   obtain rfl := HT.out.trans ((if_neg HC0.out).trans ((if_neg HOV.out).trans (if_pos cs)))
   clear cs
   rcases hc2 with ⟨p1, p2⟩ | ⟨p1, p2⟩
   all_goals
    go_wp2_with fail
    obtain ⟨q, qb⟩ := two_set rfl H4.out g4 HB.out (.int .i64 qh) (.int .u64 ql)
    exact bodyPost_ret (results_ctt rfl _ _ b4 124 _ (0, 0) _ rfl q Tryz.underlying124 rfl (by kernel_rfl)) rfl ⟨rfl, qb⟩
  have hc2 : (decide (h < 0) = true ∧ decide (b < 0) = false) ∨ (decide (h < 0) = false ∧ decide (b < 0) = true) := by
   by_cases c1 : h < 0
   ·
    exact .inl ⟨decide_eq_true c1, decide_eq_false (fun e => cs ⟨fun _ => e, fun _ => c1⟩)⟩
   by_cases c2 : b < 0
   ·
    exact .inr ⟨decide_eq_false c1, decide_eq_true c2⟩
   exact absurd ⟨fun e => absurd e c1, fun e => absurd e c2⟩ cs
  have HT2 := am (HT.out.trans ((if_neg HC0.out).trans ((if_neg HOV.out).trans (if_neg cs))))
  clear cs
  rcases hc2 with ⟨p1, p2⟩ | ⟨p1, p2⟩
  all_goals
   by_cases c3 : 0 < r
   ·
    obtain rfl := HT2.out.trans (if_pos c3)
    have p3 : decide (0 < r) = true := decide_eq_true c3
    go_upto_region 7 with fail
    go_wp2_with fail
    refine (HL.out wc (HG.out.below HB.out)).mono ?_
    rintro e we ⟨rfl, hb⟩
    replace H2 := b_b H2 hb
    replace H4 := b_b H4 hb
    replace HB := b_s HB hb
    clear hb
    clear y20 y21 y40 y41 f40 f41 n0 n1
    have y40 := b_l H4 0 rfl
    have f40 := b_z H4 0
    have y41 := b_l H4 1 rfl
    have f41 := b_z H4 1
    go_upto_region 8 with fail
    obtain ⟨q, qb⟩ := two_set rfl H4.out g4 HB.out (.int .i64 nh) (.int .u64 nl)
    clear y40 y41 f40 f41 H4 HB H2
    generalize (we.setCell ⟨b4, 0, none⟩ (.int .i64 nh)).setCell ⟨b4, 1, none⟩ (.int .u64 nl) = wf at q qb ⊢
    have H4 := am q
    have HB := am qb
    clear q qb
    have y40 := b_l H4 0 rfl
    have f40 := b_z H4 0
    have y41 := b_l H4 1 rfl
    have f41 := b_z H4 1
    go_upto_region 9 with fail
    clear y40 y41 f40 f41
    refine s_t 9 (fun w' => True) trivial (fun hHeld => ?_)
    replace H4 := b_d H4
    replace HB := am (below_drew HB.out)
    generalize wf.drew = wg at H4 HB hHeld ⊢
    refine p_u 3 39 9 8 ?_
    refine p_u 5 41 9 40 ?_
    refine two_ (i := 0) (j := 1) (Ni := (some 36)) (Nj := (some 37)) (flg 9 41) (flg 9 42) rfl rfl rfl rfl (by kernel_rfl) (by decide) (by decide) (fun K hK => ?_) (fun K hK => ?_)
    ·
     skip
     have z40 := b_l H4 0 rfl
     have z41 := b_l H4 1 rfl
     refine event_step (v := .agg #[nh, .int .u64 nl]) (w1 := wg) (by rfl) (by first | (go_simp; done) | (go_simp; rfl)) ?_
     clear hHeld z40 z41
     refine hK.out _ _ trivial (fun hHeld => ?_)
     clear hK K
     refine n_o 36 ?_
     refine o_n 1 37 9 43 fun K hK => ?_
     refine g_s Tryz.func79 #[.int .i64 1] ?_
     refine (wide_Of.calls 1 0 1 wg rfl).mono ?_
     rintro e wh ⟨rfl, hb⟩
     replace H4 := b_b H4 hb
     replace HB := b_s HB hb
     clear hb hHeld
     refine ⟨_, rfl, ?_⟩
     refine hK.out _ _ trivial (fun hHeld => ?_)
     clear hK K
     refine n_o 37 ?_
     refine o_n 2 38 9 47 fun K hK => ?_
     refine g_s Tryz.func133 #[.agg #[nh, .int .u64 nl], .agg #[(), .int .u64 1]] ?_
     refine (HM.out wh (HG.out.below HB.out)).mono ?_
     rintro e wi ⟨rfl, hb⟩
     replace H4 := b_b H4 hb
     replace HB := b_s HB hb
     clear hb hHeld
     refine ⟨_, rfl, ?_⟩
     refine hK.out _ _ trivial (fun hHeld => ?_)
     clear hK K
     refine n_o 38 ?_
     refine o_n 4 40 9 63 fun K hK => ?_
     refine g_s Tryz.func132 #[b] ?_
     refine (wide_size.calls b (sz b) wi (sz_f b)).mono ?_
     rintro e wi2 ⟨rfl, hd⟩
     have hb := hd.below
     clear hd
     replace H4 := b_b H4 hb
     replace HB := b_s HB hb
     clear hb hHeld
     refine ⟨_, rfl, ?_⟩
     refine hK.out _ _ trivial (fun hHeld => ?_)
     clear hK K
     refine n_o 40 ?_
     refine p_u 6 42 9 127 ?_
     have y40 := b_l H4 0 rfl
     have f40 := b_z H4 0
     have y41 := b_l H4 1 rfl
     have f41 := b_z H4 1
     refine o_0 7 9 255 fun K hK => ?_
     refine s_k ((wi2.setCell ⟨b4, 0, none⟩ (.int .i64 mh)).setCell ⟨b4, 1, none⟩ (.int .u64 ml)) ?_
     obtain ⟨q, qb⟩ := two_set rfl H4.out g4 HB.out (.int .i64 mh) (.int .u64 ml)
     clear hHeld y40 y41 f40 f41 H4 HB
     generalize (wi2.setCell ⟨b4, 0, none⟩ (.int .i64 mh)).setCell ⟨b4, 1, none⟩ (.int .u64 ml) = wj at q qb  ⊢
     have H4 := am q
     have HB := am qb
     clear q qb
     refine hK.out _ _ trivial (fun hHeld => ?_)
     clear hK K
     refine p_u 8 5 9 511 ?_
     refine d_n ?_
     have y40 := b_l H4 0 rfl
     have f40 := b_z H4 0
     have y41 := b_l H4 1 rfl
     have f41 := b_z H4 1
     go_wp2_with fail
     obtain ⟨q, qb⟩ := two_set rfl H4.out g4 HB.out (.int .i64 mh) (.int .u64 ml)
     exact bodyPost_ret (results_ctt rfl _ _ b4 124 _ (0, 0) _ rfl q Tryz.underlying124 rfl (by kernel_rfl)) rfl ⟨rfl, qb⟩
    skip
    refine g_s Tryz.func79 #[.int .i64 1] ?_
    refine (wide_Of.calls 1 0 1 wg rfl).mono ?_
    rintro e wh ⟨rfl, hb⟩
    replace H4 := b_b H4 hb
    replace HB := b_s HB hb
    clear hb hHeld
    refine ⟨_, rfl, ?_⟩
    refine hK.out _ _ trivial (fun hHeld => ?_)
    clear hK K
    refine n_o 37 ?_
    refine o_n 0 36 9 43 fun K hK => ?_
    have z40 := b_l H4 0 rfl
    have z41 := b_l H4 1 rfl
    refine event_step (v := .agg #[nh, .int .u64 nl]) (w1 := wh) (by rfl) (by first | (go_simp; done) | (go_simp; rfl)) ?_
    clear hHeld z40 z41
    refine hK.out _ _ trivial (fun hHeld => ?_)
    clear hK K
    refine n_o 36 ?_
    refine o_n 2 38 9 47 fun K hK => ?_
    refine g_s Tryz.func133 #[.agg #[nh, .int .u64 nl], .agg #[(), .int .u64 1]] ?_
    refine (HM.out wh (HG.out.below HB.out)).mono ?_
    rintro e wi ⟨rfl, hb⟩
    replace H4 := b_b H4 hb
    replace HB := b_s HB hb
    clear hb hHeld
    refine ⟨_, rfl, ?_⟩
    refine hK.out _ _ trivial (fun hHeld => ?_)
    clear hK K
    refine n_o 38 ?_
    refine o_n 4 40 9 63 fun K hK => ?_
    refine g_s Tryz.func132 #[b] ?_
    refine (wide_size.calls b (sz b) wi (sz_f b)).mono ?_
    rintro e wi2 ⟨rfl, hd⟩
    have hb := hd.below
    clear hd
    replace H4 := b_b H4 hb
    replace HB := b_s HB hb
    clear hb hHeld
    refine ⟨_, rfl, ?_⟩
    refine hK.out _ _ trivial (fun hHeld => ?_)
    clear hK K
    refine n_o 40 ?_
    refine p_u 6 42 9 127 ?_
    have y40 := b_l H4 0 rfl
    have f40 := b_z H4 0
    have y41 := b_l H4 1 rfl
    have f41 := b_z H4 1
    refine o_0 7 9 255 fun K hK => ?_
    refine s_k ((wi2.setCell ⟨b4, 0, none⟩ (.int .i64 mh)).setCell ⟨b4, 1, none⟩ (.int .u64 ml)) ?_
    obtain ⟨q, qb⟩ := two_set rfl H4.out g4 HB.out (.int .i64 mh) (.int .u64 ml)
    clear hHeld y40 y41 f40 f41 H4 HB
    generalize (wi2.setCell ⟨b4, 0, none⟩ (.int .i64 mh)).setCell ⟨b4, 1, none⟩ (.int .u64 ml) = wj at q qb  ⊢
    have H4 := am q
    have HB := am qb
    clear q qb
    refine hK.out _ _ trivial (fun hHeld => ?_)
    clear hK K
    refine p_u 8 5 9 511 ?_
    refine d_n ?_
    have y40 := b_l H4 0 rfl
    have f40 := b_z H4 0
    have y41 := b_l H4 1 rfl
    have f41 := b_z H4 1
    go_wp2_with fail
    obtain ⟨q, qb⟩ := two_set rfl H4.out g4 HB.out (.int .i64 mh) (.int .u64 ml)
    exact bodyPost_ret (results_ctt rfl _ _ b4 124 _ (0, 0) _ rfl q Tryz.underlying124 rfl (by kernel_rfl)) rfl ⟨rfl, qb⟩
   obtain rfl := HT2.out.trans (if_neg c3)
   have p3 : decide (0 < r) = false := decide_eq_false c3
   go_upto_region 7 with fail
   go_wp2_with fail
   refine (HL.out wc (HG.out.below HB.out)).mono ?_
   rintro e we ⟨rfl, hb⟩
   replace H2 := b_b H2 hb
   replace H4 := b_b H4 hb
   replace HB := b_s HB hb
   clear hb
   clear y20 y21 y40 y41 f40 f41 n0 n1
   have y40 := b_l H4 0 rfl
   have f40 := b_z H4 0
   have y41 := b_l H4 1 rfl
   have f41 := b_z H4 1
   go_upto_region 8 with fail
   obtain ⟨q, qb⟩ := two_set rfl H4.out g4 HB.out (.int .i64 nh) (.int .u64 nl)
   clear y40 y41 f40 f41 H4 HB H2
   generalize (we.setCell ⟨b4, 0, none⟩ (.int .i64 nh)).setCell ⟨b4, 1, none⟩ (.int .u64 nl) = wf at q qb ⊢
   have H4 := am q
   have HB := am qb
   clear q qb
   have y40 := b_l H4 0 rfl
   have f40 := b_z H4 0
   have y41 := b_l H4 1 rfl
   have f41 := b_z H4 1
   go_wp2_with fail
   obtain ⟨q, qb⟩ := two_set rfl H4.out g4 HB.out (.int .i64 nh) (.int .u64 nl)
   exact bodyPost_ret (results_ctt rfl _ _ b4 124 _ (0, 0) _ rfl q Tryz.underlying124 rfl (by kernel_rfl)) rfl ⟨rfl, qb⟩
end Go.Proofs.YtpdahkgandaabaaGreatDoor.Ch
