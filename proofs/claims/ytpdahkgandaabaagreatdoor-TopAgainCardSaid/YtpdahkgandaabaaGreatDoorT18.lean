/- A part of the proof of TopAgain, where the package's tables hold what their initialisers lay. -/
import Derived.Test.YtpdahkgandaabaaGreatDoorT01
import Derived.Test.YtpdahkgandaabaaGreatDoorT06
import Derived.Test.YtpdahkgandaabaaGreatDoorT07
import Derived.Test.YtpdahkgandaabaaGreatDoorT09
import Derived.Test.YtpdahkgandaabaaGreatDoorT17
namespace Go.Proofs.YtpdahkgandaabaaGreatDoor.Ch
open Go.RowKit Go.Proofs.YtpdahkgandaabaaGreatDoorW.PrintWords Go.Proofs.YtpdahkgandaabaaGreatDoorW.PrintLast Go.Proofs.YtpdahkgandaabaaGreatDoorW.PrintMore Go.Proofs.YtpdahkgandaabaaGreatDoor.PTopNames Go.Proofs.YtpdahkgandaabaaGreatDoor.Al
set_option linter.unusedVariables false
set_option linter.unusedSimpArgs false
set_option maxRecDepth 100000 in
set_option maxHeartbeats 4000000 in
theorem even_tells (h l b : Int) (hl : U l) : ∃ h' l' e, U l' ∧ Tells 159 #[wide h l, b] (.tuple #[wide h' l', .int .i64 e]) := by
 obtain ⟨qh, ql, r, e, uq, hs⟩ := split_tells h l b hl
 obtain ⟨oh, ol, uo, ho⟩ := of_tells 1
 obtain ⟨ph, pl, up, hp⟩ := plus_tells qh ql oh ol uq uo
 have HS := am hs
 have HO := am ho
 have HP := am hp
 clear hs ho hp
 unfold wide at *
 by_cases h0 : e = 0
 ·
  subst h0
  obtain ⟨lf, hlf⟩ : ∃ lf, lf = IntKind.u64.wrap (sz b - r) := ⟨_, rfl⟩
  have HLF := am hlf
  clear hlf
  by_cases k1 : lf < r
  ·
   have c1 : decide (lf < r) = true := decide_eq_true k1
   refine ⟨ph, pl, 0, up, fun w hG => ?_⟩
   have HG := am hG
   clear hG
   go_enter Tryz.func159, Tryz.ntmps159
   go_upto_region 1 with fail
   obtain ⟨x2', x4', hB⟩ := blocks2 w #[h, .int .u64 l] #[(), .int .u64 0] 124 124
   generalize (w.alloc (.cells #[h, .int .u64 l] 124)).alloc (.cells #[(), .int .u64 0] 124) = w1 at x2' x4' hB ⊢
   obtain ⟨b2, h2⟩ := e_x (w.heap.size)
   obtain ⟨b4, h4⟩ := e_x (w.heap.size + 1)
   have g2 : w.heap.size ≤ b2 := by omega
   have g4 : w.heap.size ≤ b4 := by omega
   have n2_4 : b2 ≠ b4 := by omega
   have n4_2 : b4 ≠ b2 := by omega
   rw [← h4, ← h2]
   rw [← h4] at x4'
   rw [← h2] at x2'
   have H2 := am x2'
   have H4 := am x4'
   have HB := am hB
   clear x2' x4' hB h2 h4
   have y20 := b_v H2 0 (.int .i64 h) rfl
   have y21 := b_v H2 1 (.int .u64 l) rfl
   go_wp2_with fail
   refine (HS.out w1 (HG.out.below HB.out)).mono ?_
   rintro e w2 ⟨rfl, hb⟩
   replace H2 := b_b H2 hb
   replace H4 := b_b H4 hb
   replace HB := b_s HB hb
   clear hb y20 y21
   go_upto_region 2 with fail
   have n4_6 : b4 ≠ w2.heap.size := Nat.ne_of_lt (blk_lt H4.out)
   replace H4 := am (blk_alloc H4.out (.cells #[qh, .int .u64 ql] 124))
   have H6 := am (blk_new w2 (.cells #[qh, .int .u64 ql] 124))
   have g6 : w.heap.size ≤ w2.heap.size := HB.out.size
   replace HB := am (below_alloc HB.out (.cells #[qh, .int .u64 ql] 124))
   generalize w2.alloc (.cells #[qh, .int .u64 ql] 124) = w3 at H4 H6 HB ⊢
   generalize w2.heap.size = b6 at H6 g6 n4_6 ⊢
   go_wp2_with fail
   refine (wide_size.calls b (sz b) w3 (sz_f b)).mono ?_
   rintro e w4 ⟨rfl, hd⟩
   have hb := hd.below
   clear hd
   replace H4 := b_b H4 hb
   replace H6 := b_b H6 hb
   replace HB := b_s HB hb
   clear hb
   have y60 := b_v H6 0 (.int .i64 qh) rfl
   have y61 := b_v H6 1 (.int .u64 ql) rfl
   have y40 := b_v H4 0 (.int .i64 0) rfl
   have f40 := b_z H4 0
   have y41 := b_v H4 1 (.int .u64 0) rfl
   have f41 := b_z H4 1
   go_upto_region 5 with fail
   rw [← HLF.out]
   go_upto_region 6 with fail
   clear y60 y61
   clear y40 y41 f40 f41
   refine s_t 5 (fun w' => w'.heap[b6]? = some (.cells #[qh, .int .u64 ql] 124 (0, 0))) H6.out (fun hHeld => ?_)
   replace H4 := b_d H4
   replace H6 := b_d H6
   replace HB := am (below_drew HB.out)
   generalize w4.drew = x1 at H4 H6 HB hHeld ⊢
   refine t_a 0 39 5 1 hHeld ?_ (hv := by rintro w' s0; have x0 := bcv s0 0 (.int .i64 qh) rfl; have x1 := bcv s0 1 (.int .u64 ql) rfl; go_simp; with_reducible rfl)
   refine o_n 1 40 5 3 fun K hK => ?_
   refine g_s Tryz.func79 #[.int .i64 1] ?_
   refine (HO.out x1 (HG.out.below HB.out)).mono ?_
   rintro e x2 ⟨rfl, hb⟩
   replace H4 := b_b H4 hb
   replace H6 := b_b H6 hb
   replace HB := b_s HB hb
   clear hb hHeld
   refine ⟨_, rfl, ?_⟩
   refine hK.out _ _ H6.out (fun hHeld => ?_)
   clear hK K
   refine n_o 40 ?_
   refine o_n 2 41 5 7 fun K hK => ?_
   refine g_s Tryz.func123 #[.agg #[qh, .int .u64 ql], .agg #[oh, .int .u64 ol]] ?_
   refine (HP.out x2 (HG.out.below HB.out)).mono ?_
   rintro e x3 ⟨rfl, hb⟩
   replace H4 := b_b H4 hb
   replace H6 := b_b H6 hb
   replace HB := b_s HB hb
   clear hb hHeld
   refine ⟨_, rfl, ?_⟩
   refine hK.out _ _ H6.out (fun hHeld => ?_)
   clear hK K
   refine n_o 41 ?_
   have y40 := b_v H4 0 (.int .i64 0) rfl
   have f40 := b_z H4 0
   have y41 := b_v H4 1 (.int .u64 0) rfl
   have f41 := b_z H4 1
   refine o_0 3 5 15 fun K hK => ?_
   refine s_k ((x3.setCell ⟨b4, 0, none⟩ (.int .i64 ph)).setCell ⟨b4, 1, none⟩ (.int .u64 pl)) ?_
   obtain ⟨q, qb⟩ := two_set rfl H4.out g4 HB.out (.int .i64 ph) (.int .u64 pl)
   have qo0 := blk_far (blk_far H6.out (p := ⟨b4, 0, none⟩) (Ne.symm n4_6) (.int .i64 ph)) (p := ⟨b4, 1, none⟩) (Ne.symm n4_6) (.int .u64 pl)
   clear hHeld y40 y41 f40 f41 H4 HB H6
   generalize (x3.setCell ⟨b4, 0, none⟩ (.int .i64 ph)).setCell ⟨b4, 1, none⟩ (.int .u64 pl) = x4 at q qb qo0 ⊢
   have H4 := am q
   have HB := am qb
   have H6 := am qo0
   clear q qb qo0
   refine hK.out _ _ H6.out (fun hHeld => ?_)
   clear hK K
   refine p_u 4 5 5 31 ?_
   refine d_n ?_
   go_wp2_with fail
   exact bodyPost_ret (results_ct rfl _ _ b4 124 _ (0, 0) _ rfl H4.out Tryz.underlying124 rfl (by kernel_rfl)) rfl ⟨rfl, HB.out⟩
  have c1 : decide (lf < r) = false := decide_eq_false k1
  by_cases k2 : r = lf
  ·
   have c2 : (r == lf) = true := by simp [k2]
   have c3 : decide (r = lf) = true := decide_eq_true k2
   have K2 := am k2
   clear k2
   by_cases k4 : (Go.bits .and .u64 ql 1) = 1
   ·
    have c4 : (Go.bits .and .u64 ql 1 == 1) = true := by simp [k4]
    have c5 : decide (Go.bits .and .u64 ql 1 = 1) = true := decide_eq_true k4
    refine ⟨ph, pl, 0, up, fun w hG => ?_⟩
    have HG := am hG
    clear hG
    go_enter Tryz.func159, Tryz.ntmps159
    go_upto_region 1 with fail
    obtain ⟨x2', x4', hB⟩ := blocks2 w #[h, .int .u64 l] #[(), .int .u64 0] 124 124
    generalize (w.alloc (.cells #[h, .int .u64 l] 124)).alloc (.cells #[(), .int .u64 0] 124) = w1 at x2' x4' hB ⊢
    obtain ⟨b2, h2⟩ := e_x (w.heap.size)
    obtain ⟨b4, h4⟩ := e_x (w.heap.size + 1)
    have g2 : w.heap.size ≤ b2 := by omega
    have g4 : w.heap.size ≤ b4 := by omega
    have n2_4 : b2 ≠ b4 := by omega
    have n4_2 : b4 ≠ b2 := by omega
    rw [← h4, ← h2]
    rw [← h4] at x4'
    rw [← h2] at x2'
    have H2 := am x2'
    have H4 := am x4'
    have HB := am hB
    clear x2' x4' hB h2 h4
    have y20 := b_v H2 0 (.int .i64 h) rfl
    have y21 := b_v H2 1 (.int .u64 l) rfl
    go_wp2_with fail
    refine (HS.out w1 (HG.out.below HB.out)).mono ?_
    rintro e w2 ⟨rfl, hb⟩
    replace H2 := b_b H2 hb
    replace H4 := b_b H4 hb
    replace HB := b_s HB hb
    clear hb y20 y21
    go_upto_region 2 with fail
    have n4_6 : b4 ≠ w2.heap.size := Nat.ne_of_lt (blk_lt H4.out)
    replace H4 := am (blk_alloc H4.out (.cells #[qh, .int .u64 ql] 124))
    have H6 := am (blk_new w2 (.cells #[qh, .int .u64 ql] 124))
    have g6 : w.heap.size ≤ w2.heap.size := HB.out.size
    replace HB := am (below_alloc HB.out (.cells #[qh, .int .u64 ql] 124))
    generalize w2.alloc (.cells #[qh, .int .u64 ql] 124) = w3 at H4 H6 HB ⊢
    generalize w2.heap.size = b6 at H6 g6 n4_6 ⊢
    go_wp2_with fail
    refine (wide_size.calls b (sz b) w3 (sz_f b)).mono ?_
    rintro e w4 ⟨rfl, hd⟩
    have hb := hd.below
    clear hd
    replace H4 := b_b H4 hb
    replace H6 := b_b H6 hb
    replace HB := b_s HB hb
    clear hb
    have y60 := b_v H6 0 (.int .i64 qh) rfl
    have y61 := b_v H6 1 (.int .u64 ql) rfl
    have y40 := b_v H4 0 (.int .i64 0) rfl
    have f40 := b_z H4 0
    have y41 := b_v H4 1 (.int .u64 0) rfl
    have f41 := b_z H4 1
    go_upto_region 5 with fail
    rw [← HLF.out]
    go_upto_region 6 with fail
    clear y60 y61
    clear y40 y41 f40 f41
    refine s_t 5 (fun w' => w'.heap[b6]? = some (.cells #[qh, .int .u64 ql] 124 (0, 0))) H6.out (fun hHeld => ?_)
    replace H4 := b_d H4
    replace H6 := b_d H6
    replace HB := am (below_drew HB.out)
    generalize w4.drew = x1 at H4 H6 HB hHeld ⊢
    refine t_a 0 39 5 1 hHeld ?_ (hv := by rintro w' s0; have x0 := bcv s0 0 (.int .i64 qh) rfl; have x1 := bcv s0 1 (.int .u64 ql) rfl; go_simp; with_reducible rfl)
    refine o_n 1 40 5 3 fun K hK => ?_
    refine g_s Tryz.func79 #[.int .i64 1] ?_
    refine (HO.out x1 (HG.out.below HB.out)).mono ?_
    rintro e x2 ⟨rfl, hb⟩
    replace H4 := b_b H4 hb
    replace H6 := b_b H6 hb
    replace HB := b_s HB hb
    clear hb hHeld
    refine ⟨_, rfl, ?_⟩
    refine hK.out _ _ H6.out (fun hHeld => ?_)
    clear hK K
    refine n_o 40 ?_
    refine o_n 2 41 5 7 fun K hK => ?_
    refine g_s Tryz.func123 #[.agg #[qh, .int .u64 ql], .agg #[oh, .int .u64 ol]] ?_
    refine (HP.out x2 (HG.out.below HB.out)).mono ?_
    rintro e x3 ⟨rfl, hb⟩
    replace H4 := b_b H4 hb
    replace H6 := b_b H6 hb
    replace HB := b_s HB hb
    clear hb hHeld
    refine ⟨_, rfl, ?_⟩
    refine hK.out _ _ H6.out (fun hHeld => ?_)
    clear hK K
    refine n_o 41 ?_
    have y40 := b_v H4 0 (.int .i64 0) rfl
    have f40 := b_z H4 0
    have y41 := b_v H4 1 (.int .u64 0) rfl
    have f41 := b_z H4 1
    refine o_0 3 5 15 fun K hK => ?_
    refine s_k ((x3.setCell ⟨b4, 0, none⟩ (.int .i64 ph)).setCell ⟨b4, 1, none⟩ (.int .u64 pl)) ?_
    obtain ⟨q, qb⟩ := two_set rfl H4.out g4 HB.out (.int .i64 ph) (.int .u64 pl)
    have qo0 := blk_far (blk_far H6.out (p := ⟨b4, 0, none⟩) (Ne.symm n4_6) (.int .i64 ph)) (p := ⟨b4, 1, none⟩) (Ne.symm n4_6) (.int .u64 pl)
    clear hHeld y40 y41 f40 f41 H4 HB H6
    generalize (x3.setCell ⟨b4, 0, none⟩ (.int .i64 ph)).setCell ⟨b4, 1, none⟩ (.int .u64 pl) = x4 at q qb qo0 ⊢
    have H4 := am q
    have HB := am qb
    have H6 := am qo0
    clear q qb qo0
    refine hK.out _ _ H6.out (fun hHeld => ?_)
    clear hK K
    refine p_u 4 5 5 31 ?_
    refine d_n ?_
    go_wp2_with fail
    exact bodyPost_ret (results_ct rfl _ _ b4 124 _ (0, 0) _ rfl H4.out Tryz.underlying124 rfl (by kernel_rfl)) rfl ⟨rfl, HB.out⟩
   have c4 : (Go.bits .and .u64 ql 1 == 1) = false := by simp [k4]
   have c5 : decide (Go.bits .and .u64 ql 1 = 1) = false := decide_eq_false k4
   refine ⟨qh, ql, 0, uq, fun w hG => ?_⟩
   have HG := am hG
   clear hG
   go_enter Tryz.func159, Tryz.ntmps159
   go_upto_region 1 with fail
   obtain ⟨x2', x4', hB⟩ := blocks2 w #[h, .int .u64 l] #[(), .int .u64 0] 124 124
   generalize (w.alloc (.cells #[h, .int .u64 l] 124)).alloc (.cells #[(), .int .u64 0] 124) = w1 at x2' x4' hB ⊢
   obtain ⟨b2, h2⟩ := e_x (w.heap.size)
   obtain ⟨b4, h4⟩ := e_x (w.heap.size + 1)
   have g2 : w.heap.size ≤ b2 := by omega
   have g4 : w.heap.size ≤ b4 := by omega
   have n2_4 : b2 ≠ b4 := by omega
   have n4_2 : b4 ≠ b2 := by omega
   rw [← h4, ← h2]
   rw [← h4] at x4'
   rw [← h2] at x2'
   have H2 := am x2'
   have H4 := am x4'
   have HB := am hB
   clear x2' x4' hB h2 h4
   have y20 := b_v H2 0 (.int .i64 h) rfl
   have y21 := b_v H2 1 (.int .u64 l) rfl
   go_wp2_with fail
   refine (HS.out w1 (HG.out.below HB.out)).mono ?_
   rintro e w2 ⟨rfl, hb⟩
   replace H2 := b_b H2 hb
   replace H4 := b_b H4 hb
   replace HB := b_s HB hb
   clear hb y20 y21
   go_upto_region 2 with fail
   have n4_6 : b4 ≠ w2.heap.size := Nat.ne_of_lt (blk_lt H4.out)
   replace H4 := am (blk_alloc H4.out (.cells #[qh, .int .u64 ql] 124))
   have H6 := am (blk_new w2 (.cells #[qh, .int .u64 ql] 124))
   have g6 : w.heap.size ≤ w2.heap.size := HB.out.size
   replace HB := am (below_alloc HB.out (.cells #[qh, .int .u64 ql] 124))
   generalize w2.alloc (.cells #[qh, .int .u64 ql] 124) = w3 at H4 H6 HB ⊢
   generalize w2.heap.size = b6 at H6 g6 n4_6 ⊢
   go_wp2_with fail
   refine (wide_size.calls b (sz b) w3 (sz_f b)).mono ?_
   rintro e w4 ⟨rfl, hd⟩
   have hb := hd.below
   clear hd
   replace H4 := b_b H4 hb
   replace H6 := b_b H6 hb
   replace HB := b_s HB hb
   clear hb
   have y60 := b_v H6 0 (.int .i64 qh) rfl
   have y61 := b_v H6 1 (.int .u64 ql) rfl
   have y40 := b_v H4 0 (.int .i64 0) rfl
   have f40 := b_z H4 0
   have y41 := b_v H4 1 (.int .u64 0) rfl
   have f41 := b_z H4 1
   go_upto_region 5 with fail
   rw [← HLF.out]
   go_wp2_with fail
   obtain ⟨q, qb⟩ := two_set rfl H4.out g4 HB.out (.int .i64 qh) (.int .u64 ql)
   exact bodyPost_ret (results_ct rfl _ _ b4 124 _ (0, 0) _ rfl q Tryz.underlying124 rfl (by kernel_rfl)) rfl ⟨rfl, qb⟩
  have c2 : (r == lf) = false := by simp [k2]
  have c3 : decide (r = lf) = false := decide_eq_false k2
  refine ⟨qh, ql, 0, uq, fun w hG => ?_⟩
  have HG := am hG
  clear hG
  go_enter Tryz.func159, Tryz.ntmps159
  go_upto_region 1 with fail
  obtain ⟨x2', x4', hB⟩ := blocks2 w #[h, .int .u64 l] #[(), .int .u64 0] 124 124
  generalize (w.alloc (.cells #[h, .int .u64 l] 124)).alloc (.cells #[(), .int .u64 0] 124) = w1 at x2' x4' hB ⊢
  obtain ⟨b2, h2⟩ := e_x (w.heap.size)
  obtain ⟨b4, h4⟩ := e_x (w.heap.size + 1)
  have g2 : w.heap.size ≤ b2 := by omega
  have g4 : w.heap.size ≤ b4 := by omega
  have n2_4 : b2 ≠ b4 := by omega
  have n4_2 : b4 ≠ b2 := by omega
  rw [← h4, ← h2]
  rw [← h4] at x4'
  rw [← h2] at x2'
  have H2 := am x2'
  have H4 := am x4'
  have HB := am hB
  clear x2' x4' hB h2 h4
  have y20 := b_v H2 0 (.int .i64 h) rfl
  have y21 := b_v H2 1 (.int .u64 l) rfl
  go_wp2_with fail
  refine (HS.out w1 (HG.out.below HB.out)).mono ?_
  rintro e w2 ⟨rfl, hb⟩
  replace H2 := b_b H2 hb
  replace H4 := b_b H4 hb
  replace HB := b_s HB hb
  clear hb y20 y21
  go_upto_region 2 with fail
  have n4_6 : b4 ≠ w2.heap.size := Nat.ne_of_lt (blk_lt H4.out)
  replace H4 := am (blk_alloc H4.out (.cells #[qh, .int .u64 ql] 124))
  have H6 := am (blk_new w2 (.cells #[qh, .int .u64 ql] 124))
  have g6 : w.heap.size ≤ w2.heap.size := HB.out.size
  replace HB := am (below_alloc HB.out (.cells #[qh, .int .u64 ql] 124))
  generalize w2.alloc (.cells #[qh, .int .u64 ql] 124) = w3 at H4 H6 HB ⊢
  generalize w2.heap.size = b6 at H6 g6 n4_6 ⊢
  go_wp2_with fail
  refine (wide_size.calls b (sz b) w3 (sz_f b)).mono ?_
  rintro e w4 ⟨rfl, hd⟩
  have hb := hd.below
  clear hd
  replace H4 := b_b H4 hb
  replace H6 := b_b H6 hb
  replace HB := b_s HB hb
  clear hb
  have y60 := b_v H6 0 (.int .i64 qh) rfl
  have y61 := b_v H6 1 (.int .u64 ql) rfl
  have y40 := b_v H4 0 (.int .i64 0) rfl
  have f40 := b_z H4 0
  have y41 := b_v H4 1 (.int .u64 0) rfl
  have f41 := b_z H4 1
  go_upto_region 5 with fail
  rw [← HLF.out]
  go_wp2_with fail
  obtain ⟨q, qb⟩ := two_set rfl H4.out g4 HB.out (.int .i64 qh) (.int .u64 ql)
  exact bodyPost_ret (results_ct rfl _ _ b4 124 _ (0, 0) _ rfl q Tryz.underlying124 rfl (by kernel_rfl)) rfl ⟨rfl, qb⟩
 have q1 : (e == 0) = false := by simp [h0]
 have q2 : decide (e = 0) = false := decide_eq_false h0
 refine ⟨0, 0, e, ⟨by decide, by decide⟩, fun w hG => ?_⟩
 have HG := am hG
 clear hG
 go_enter Tryz.func159, Tryz.ntmps159
 go_upto_region 1 with fail
 obtain ⟨x2', x4', hB⟩ := blocks2 w #[h, .int .u64 l] #[(), .int .u64 0] 124 124
 generalize (w.alloc (.cells #[h, .int .u64 l] 124)).alloc (.cells #[(), .int .u64 0] 124) = w1 at x2' x4' hB ⊢
 obtain ⟨b2, h2⟩ := e_x (w.heap.size)
 obtain ⟨b4, h4⟩ := e_x (w.heap.size + 1)
 have g2 : w.heap.size ≤ b2 := by omega
 have g4 : w.heap.size ≤ b4 := by omega
 have n2_4 : b2 ≠ b4 := by omega
 have n4_2 : b4 ≠ b2 := by omega
 rw [← h4, ← h2]
 rw [← h4] at x4'
 rw [← h2] at x2'
 have H2 := am x2'
 have H4 := am x4'
 have HB := am hB
 clear x2' x4' hB h2 h4
 have y20 := b_v H2 0 (.int .i64 h) rfl
 have y21 := b_v H2 1 (.int .u64 l) rfl
 go_wp2_with fail
 refine (HS.out w1 (HG.out.below HB.out)).mono ?_
 rintro e w2 ⟨rfl, hb⟩
 replace H2 := b_b H2 hb
 replace H4 := b_b H4 hb
 replace HB := b_s HB hb
 clear hb y20 y21
 go_upto_region 2 with fail
 have n4_6 : b4 ≠ w2.heap.size := Nat.ne_of_lt (blk_lt H4.out)
 replace H4 := am (blk_alloc H4.out (.cells #[qh, .int .u64 ql] 124))
 have H6 := am (blk_new w2 (.cells #[qh, .int .u64 ql] 124))
 have g6 : w.heap.size ≤ w2.heap.size := HB.out.size
 replace HB := am (below_alloc HB.out (.cells #[qh, .int .u64 ql] 124))
 generalize w2.alloc (.cells #[qh, .int .u64 ql] 124) = w3 at H4 H6 HB ⊢
 generalize w2.heap.size = b6 at H6 g6 n4_6 ⊢
 have G3 := HG.out.below HB.out
 have z1 := G3.none0
 have z2 := G3.none1
 clear G3
 have y40 := b_v H4 0 (.int .i64 0) rfl
 have f40 := b_z H4 0
 have y41 := b_v H4 1 (.int .u64 0) rfl
 have f41 := b_z H4 1
 go_wp2_with fail
 obtain ⟨q, qb⟩ := two_set rfl H4.out g4 HB.out (.int .i64 0) (.int .u64 0)
 exact bodyPost_ret (results_ct rfl _ _ b4 124 _ (0, 0) _ rfl q Tryz.underlying124 rfl (by kernel_rfl)) rfl ⟨rfl, qb⟩
set_option maxRecDepth 100000 in
set_option maxHeartbeats 4000000 in
theorem div1_tells (a b : Int) : ∃ h l e, U l ∧ Tells 158 #[a, b] (.tuple #[wide h l, .int .i64 e]) := by
 obtain ⟨oh, ol, uo, ho⟩ := of_tells a
 obtain ⟨uh, ul, e0, uu, hu⟩ := up_tells oh ol 40 uo (by decide) (by decide)
 obtain ⟨eh, el, e1, ue, he⟩ := even_tells uh ul b uu
 have HO := am ho
 have HU := am hu
 have HE := am he
 clear ho hu he
 unfold wide at *
 refine ⟨eh, el, e1, ue, fun w hG => ?_⟩
 have HG := am hG
 clear hG
 go_enter Tryz.func158, Tryz.ntmps158
 go_upto_region 1 with fail
 have x4' := blk_new w (.cells #[(), .int .u64 0] 124)
 have HB := am (below_alloc (Below.refl w.heap.size w) (.cells #[(), .int .u64 0] 124))
 generalize w.alloc (.cells #[(), .int .u64 0] 124) = w1 at x4' HB ⊢
 obtain ⟨b4, h4⟩ := e_x (w.heap.size)
 have g4 : w.heap.size ≤ b4 := by omega
 rw [← h4] at x4' ⊢
 have H4 := am x4'
 clear x4' h4
 go_wp2_with fail
 refine (HO.out w1 (HG.out.below HB.out)).mono ?_
 rintro e w2 ⟨rfl, hb⟩
 replace H4 := b_b H4 hb
 replace HB := b_s HB hb
 clear hb
 go_wp2_with fail
 refine (HU.out w2 (HG.out.below HB.out)).mono ?_
 rintro e w3 ⟨rfl, hb⟩
 replace H4 := b_b H4 hb
 replace HB := b_s HB hb
 clear hb
 go_upto_region 2 with fail
 replace H4 := am (blk_alloc H4.out (.cells #[uh, .int .u64 ul] 124))
 have H6 := am (blk_new w3 (.cells #[uh, .int .u64 ul] 124))
 have g6 : w.heap.size ≤ w3.heap.size := HB.out.size
 replace HB := am (below_alloc HB.out (.cells #[uh, .int .u64 ul] 124))
 generalize w3.alloc (.cells #[uh, .int .u64 ul] 124) = w4 at H4 H6 HB ⊢
 generalize w3.heap.size = b6 at H6 g6 ⊢
 have y60 := b_v H6 0 (.int .i64 uh) rfl
 have y61 := b_v H6 1 (.int .u64 ul) rfl
 go_wp2_with fail
 refine (HE.out w4 (HG.out.below HB.out)).mono ?_
 rintro e w5 ⟨rfl, hb⟩
 replace H4 := b_b H4 hb
 replace HB := b_s HB hb
 clear hb y60 y61
 have y40 := b_v H4 0 (.int .i64 0) rfl
 have f40 := b_z H4 0
 have y41 := b_v H4 1 (.int .u64 0) rfl
 have f41 := b_z H4 1
 go_wp2_with fail
 obtain ⟨q, qb⟩ := two_set rfl H4.out g4 HB.out (.int .i64 eh) (.int .u64 el)
 exact bodyPost_ret (results_ct rfl _ _ b4 124 _ (0, 0) _ rfl q Tryz.underlying124 rfl (by kernel_rfl)) rfl ⟨rfl, qb⟩
set_option maxRecDepth 100000 in
set_option maxHeartbeats 4000000 in
theorem fdiv_tells (a b : Int) : ∃ x e, Tells 144 #[a, b] (Ch.two x e) := by
 obtain ⟨x, e, h⟩ := bothw_tells a b 158 (fun _ _ => by kernel_rfl) (div1_tells a b)
 refine ⟨x, e, fun w hG => ?_⟩
 have H := am (h w hG)
 clear h hG
 unfold Ch.two at *
 go_enter Tryz.func144, Tryz.ntmps144
 go_wp2_with fail
 refine H.out.mono ?_
 rintro e w1 ⟨rfl, hb⟩
 go_wp2_with fail
 go_ret2
 exact ⟨rfl, hb⟩
end Go.Proofs.YtpdahkgandaabaaGreatDoor.Ch
namespace Go.Proofs.YtpdahkgandaabaaGreatDoor.Ch
open Go.RowKit Go.Proofs.YtpdahkgandaabaaGreatDoorW.PrintWords Go.Proofs.YtpdahkgandaabaaGreatDoorW.PrintLast Go.Proofs.YtpdahkgandaabaaGreatDoorW.PrintMore Go.Proofs.YtpdahkgandaabaaGreatDoor.PTopNames Go.Proofs.YtpdahkgandaabaaGreatDoor.Al
set_option linter.unusedVariables false
set_option linter.unusedSimpArgs false
attribute [local go_sem] run_store_func
def f3 (x0 x1 x2 : Int) (k : Nat) : Int := if k = 0 then x0 else if k = 1 then x1 else x2
def rowT (X : Nat → Int) (c : Nat) : Array Value := #[.int .i64 (if 0 < c then X 0 else 0), .int .i64 (if 1 < c then X 1 else 0), .int .i64 (if 2 < c then X 2 else 0)]
theorem rowT_set (X : Nat → Int) {c : Int} (h0 : 0 ≤ c) (h1 : c < 3) : (rowT X c.toNat).setIfInBounds c.toNat (.int .i64 (X c.toNat)) = rowT X (c.toNat + 1) := by
 obtain rfl | rfl | rfl : c = 0 ∨ c = 1 ∨ c = 2 := by omega
 all_goals simp [rowT]
theorem divs_ex (p0 p1 p2 s : Int) : ∃ X E : Nat → Int, ∀ k, Tells 144 #[.int .i64 (f3 p0 p1 p2 k), s] (Ch.two (X k) (E k)) := by
 have h : ∀ k, ∃ q : Int × Int, Tells 144 #[.int .i64 (f3 p0 p1 p2 k), s] (Ch.two q.1 q.2) := fun k => by
  obtain ⟨x, e, h⟩ := fdiv_tells (f3 p0 p1 p2 k) s
  exact ⟨(x, e), h⟩
 exact ⟨fun k => (Classical.choose (h k)).1, fun k => (Classical.choose (h k)).2, fun k => Classical.choose_spec (h k)⟩
theorem first_ex (X E : Nat → Int) : ∃ r0 r1 r2 er, ((∀ k, k < 3 → E k = 0) → X 0 = r0 ∧ X 1 = r1 ∧ X 2 = r2 ∧ er = 0) ∧ (∀ k, k < 3 → (∀ q, q < k → E q = 0) → E k ≠ 0 → r0 = 0 ∧ r1 = 0 ∧ r2 = 0 ∧ E k = er) := by
 by_cases h0 : E 0 = 0
 ·
  by_cases h1 : E 1 = 0
  ·
   by_cases h2 : E 2 = 0
   ·
    refine ⟨X 0, X 1, X 2, 0, fun _ => ⟨rfl, rfl, rfl, rfl⟩, fun k hk hq hn => ?_⟩
    obtain rfl | rfl | rfl : k = 0 ∨ k = 1 ∨ k = 2 := by omega
    ·
     exact absurd h0 hn
    ·
     exact absurd h1 hn
    exact absurd h2 hn
   refine ⟨0, 0, 0, E 2, fun h => absurd (h 2 (by decide)) h2, fun k hk hq hn => ?_⟩
   obtain rfl | rfl | rfl : k = 0 ∨ k = 1 ∨ k = 2 := by omega
   ·
    exact absurd h0 hn
   ·
    exact absurd h1 hn
   exact ⟨rfl, rfl, rfl, rfl⟩
  refine ⟨0, 0, 0, E 1, fun h => absurd (h 1 (by decide)) h1, fun k hk hq hn => ?_⟩
  obtain rfl | rfl | rfl : k = 0 ∨ k = 1 ∨ k = 2 := by omega
  ·
   exact absurd h0 hn
  ·
   exact ⟨rfl, rfl, rfl, rfl⟩
  exact absurd (hq 1 (by decide)) h1
 refine ⟨0, 0, 0, E 0, fun h => absurd (h 0 (by decide)) h0, fun k hk hq hn => ?_⟩
 obtain rfl | rfl | rfl : k = 0 ∨ k = 1 ∨ k = 2 := by omega
 ·
  exact ⟨rfl, rfl, rfl, rfl⟩
 ·
  exact absurd (hq 0 (by decide)) h0
 exact absurd (hq 0 (by decide)) h0
set_option maxRecDepth 100000 in
set_option maxHeartbeats 4000000 in
theorem best_tells (p0 p1 p2 p3 p4 p5 sp : Int) : ∃ r0 r1 r2 e, Tells 110 #[sym p0 p1 p2 p3 p4 p5, sp] (.tuple #[vec r0 r1 r2, .int .i64 e]) := by
 obtain ⟨n0, n1, n2, n3, n4, n5, e0, ha⟩ := sadd_tells p0 p1 p2 p3 p4 p5 0 0 0 0 0 0
 obtain ⟨X, E, hD⟩ := divs_ex p0 p1 p2 sp
 obtain ⟨r0, r1, r2, er, hyes, hno⟩ := first_ex X E
 have HA := am ha
 have HD := am hD
 have HYES := am hyes
 have HNO := am hno
 clear ha hD hyes hno
 unfold sym vec Ch.two at *
 by_cases h0 : e0 = 0
 ·
  subst h0
  cases hf : fits sp with
  | false =>
   have HF := am hf
   clear hf
   refine ⟨0, 0, 0, 1, fun w hG => ?_⟩
   have HG := am hG
   clear hG
   go_enter Tryz.func110, Tryz.ntmps110
   go_upto_region 1 with fail
   obtain ⟨x2', x4', hB⟩ := blocks2 w #[p0, p1, p2, p3, p4, p5] #[(), (), ()] 46 26
   generalize (w.alloc (.cells #[p0, p1, p2, p3, p4, p5] 46)).alloc (.cells #[(), (), ()] 26) = w1 at x2' x4' hB ⊢
   obtain ⟨b2, h2⟩ := e_x (w.heap.size)
   obtain ⟨b4, h4⟩ := e_x (w.heap.size + 1)
   have g2 : w.heap.size ≤ b2 := by omega
   have g4 : w.heap.size ≤ b4 := by omega
   have n2_4 : b2 ≠ b4 := by omega
   have n4_2 : b4 ≠ b2 := by omega
   rw [← h4, ← h2]
   rw [← h4] at x4'
   rw [← h2] at x2'
   have H2 := am x2'
   have H4 := am x4'
   have HB := am hB
   clear x2' x4' hB h2 h4
   have y20 := b_v H2 0 (.int .i64 p0) rfl
   have y21 := b_v H2 1 (.int .i64 p1) rfl
   have y22 := b_v H2 2 (.int .i64 p2) rfl
   have y23 := b_v H2 3 (.int .i64 p3) rfl
   have y24 := b_v H2 4 (.int .i64 p4) rfl
   have y25 := b_v H2 5 (.int .i64 p5) rfl
   go_wp2_with fail
   refine (HA.out w1 (HG.out.below HB.out)).mono ?_
   rintro e w2 ⟨rfl, hb⟩
   replace H2 := b_b H2 hb
   replace H4 := b_b H4 hb
   replace HB := b_s HB hb
   clear y20 y21 y22 y23 y24 y25
   clear hb
   go_upto_region 2 with fail
   replace H2 := am (blk_alloc H2.out (.cells #[n0, n1, n2, n3, n4, n5] 46))
   replace H4 := am (blk_alloc H4.out (.cells #[n0, n1, n2, n3, n4, n5] 46))
   replace HB := am (below_alloc HB.out (.cells #[n0, n1, n2, n3, n4, n5] 46))
   generalize w2.alloc (.cells #[n0, n1, n2, n3, n4, n5] 46) = w3 at H2 H4 HB ⊢
   generalize w2.heap.size = b6
   go_wp2_with fail
   refine (fits_any w3 sp).mono ?_
   rintro e w4 ⟨rfl, rfl⟩
   rw [HF.out]
   have y40 := b_v H4 0 (.int .i64 0) rfl
   have f40 := b_z H4 0
   have y41 := b_v H4 1 (.int .i64 0) rfl
   have f41 := b_z H4 1
   have y42 := b_v H4 2 (.int .i64 0) rfl
   have f42 := b_z H4 2
   go_wp2_with fail
   obtain ⟨q, qb⟩ := three_set rfl H4.out g4 HB.out (.int .i64 0) (.int .i64 0) (.int .i64 0)
   exact bodyPost_ret (results_ct rfl _ _ b4 26 _ (0, 0) _ rfl q Tryz.underlying26 rfl (by kernel_rfl)) rfl ⟨rfl, qb⟩
  | true =>
   have HF := am hf
   clear hf
   by_cases h1 : sp < 1
   ·
    have d1 : decide (sp < 1) = true := decide_eq_true h1
    refine ⟨0, 0, 0, 1, fun w hG => ?_⟩
    have HG := am hG
    clear hG
    go_enter Tryz.func110, Tryz.ntmps110
    go_upto_region 1 with fail
    obtain ⟨x2', x4', hB⟩ := blocks2 w #[p0, p1, p2, p3, p4, p5] #[(), (), ()] 46 26
    generalize (w.alloc (.cells #[p0, p1, p2, p3, p4, p5] 46)).alloc (.cells #[(), (), ()] 26) = w1 at x2' x4' hB ⊢
    obtain ⟨b2, h2⟩ := e_x (w.heap.size)
    obtain ⟨b4, h4⟩ := e_x (w.heap.size + 1)
    have g2 : w.heap.size ≤ b2 := by omega
    have g4 : w.heap.size ≤ b4 := by omega
    have n2_4 : b2 ≠ b4 := by omega
    have n4_2 : b4 ≠ b2 := by omega
    rw [← h4, ← h2]
    rw [← h4] at x4'
    rw [← h2] at x2'
    have H2 := am x2'
    have H4 := am x4'
    have HB := am hB
    clear x2' x4' hB h2 h4
    have y20 := b_v H2 0 (.int .i64 p0) rfl
    have y21 := b_v H2 1 (.int .i64 p1) rfl
    have y22 := b_v H2 2 (.int .i64 p2) rfl
    have y23 := b_v H2 3 (.int .i64 p3) rfl
    have y24 := b_v H2 4 (.int .i64 p4) rfl
    have y25 := b_v H2 5 (.int .i64 p5) rfl
    go_wp2_with fail
    refine (HA.out w1 (HG.out.below HB.out)).mono ?_
    rintro e w2 ⟨rfl, hb⟩
    replace H2 := b_b H2 hb
    replace H4 := b_b H4 hb
    replace HB := b_s HB hb
    clear y20 y21 y22 y23 y24 y25
    clear hb
    go_upto_region 2 with fail
    replace H2 := am (blk_alloc H2.out (.cells #[n0, n1, n2, n3, n4, n5] 46))
    replace H4 := am (blk_alloc H4.out (.cells #[n0, n1, n2, n3, n4, n5] 46))
    replace HB := am (below_alloc HB.out (.cells #[n0, n1, n2, n3, n4, n5] 46))
    generalize w2.alloc (.cells #[n0, n1, n2, n3, n4, n5] 46) = w3 at H2 H4 HB ⊢
    generalize w2.heap.size = b6
    go_wp2_with fail
    refine (fits_any w3 sp).mono ?_
    rintro e w4 ⟨rfl, rfl⟩
    rw [HF.out]
    have y40 := b_v H4 0 (.int .i64 0) rfl
    have f40 := b_z H4 0
    have y41 := b_v H4 1 (.int .i64 0) rfl
    have f41 := b_z H4 1
    have y42 := b_v H4 2 (.int .i64 0) rfl
    have f42 := b_z H4 2
    go_wp2_with fail
    obtain ⟨q, qb⟩ := three_set rfl H4.out g4 HB.out (.int .i64 0) (.int .i64 0) (.int .i64 0)
    exact bodyPost_ret (results_ct rfl _ _ b4 26 _ (0, 0) _ rfl q Tryz.underlying26 rfl (by kernel_rfl)) rfl ⟨rfl, qb⟩
   have d1 : decide (sp < 1) = false := decide_eq_false h1
   refine ⟨r0, r1, r2, er, fun w hG => ?_⟩
   have HG := am hG
   clear hG
   go_enter Tryz.func110, Tryz.ntmps110
   go_upto_region 1 with fail
   obtain ⟨x2', x4', hB⟩ := blocks2 w #[p0, p1, p2, p3, p4, p5] #[(), (), ()] 46 26
   generalize (w.alloc (.cells #[p0, p1, p2, p3, p4, p5] 46)).alloc (.cells #[(), (), ()] 26) = w1 at x2' x4' hB ⊢
   obtain ⟨b2, h2⟩ := e_x (w.heap.size)
   obtain ⟨b4, h4⟩ := e_x (w.heap.size + 1)
   have g2 : w.heap.size ≤ b2 := by omega
   have g4 : w.heap.size ≤ b4 := by omega
   have n2_4 : b2 ≠ b4 := by omega
   have n4_2 : b4 ≠ b2 := by omega
   rw [← h4, ← h2]
   rw [← h4] at x4'
   rw [← h2] at x2'
   have H2 := am x2'
   have H4 := am x4'
   have HB := am hB
   clear x2' x4' hB h2 h4
   have y20 := b_v H2 0 (.int .i64 p0) rfl
   have y21 := b_v H2 1 (.int .i64 p1) rfl
   have y22 := b_v H2 2 (.int .i64 p2) rfl
   have y23 := b_v H2 3 (.int .i64 p3) rfl
   have y24 := b_v H2 4 (.int .i64 p4) rfl
   have y25 := b_v H2 5 (.int .i64 p5) rfl
   go_wp2_with fail
   refine (HA.out w1 (HG.out.below HB.out)).mono ?_
   rintro e w2 ⟨rfl, hb⟩
   replace H2 := b_b H2 hb
   replace H4 := b_b H4 hb
   replace HB := b_s HB hb
   clear y20 y21 y22 y23 y24 y25
   clear hb
   go_upto_region 2 with fail
   replace H2 := am (blk_alloc H2.out (.cells #[n0, n1, n2, n3, n4, n5] 46))
   replace H4 := am (blk_alloc H4.out (.cells #[n0, n1, n2, n3, n4, n5] 46))
   replace HB := am (below_alloc HB.out (.cells #[n0, n1, n2, n3, n4, n5] 46))
   generalize w2.alloc (.cells #[n0, n1, n2, n3, n4, n5] 46) = w3 at H2 H4 HB ⊢
   generalize w2.heap.size = b6
   go_wp2_with fail
   refine (fits_any w3 sp).mono ?_
   rintro e w4 ⟨rfl, rfl⟩
   rw [HF.out]
   go_upto_region 5 with fail
   have n2_8 : b2 ≠ w4.heap.size := Nat.ne_of_lt (blk_lt H2.out)
   have n4_8 : b4 ≠ w4.heap.size := Nat.ne_of_lt (blk_lt H4.out)
   replace H2 := am (blk_alloc H2.out (.cells #[(), (), ()] 26))
   replace H4 := am (blk_alloc H4.out (.cells #[(), (), ()] 26))
   have H8 := am (blk_new w4 (.cells #[(), (), ()] 26))
   have g8 : w.heap.size ≤ w4.heap.size := HB.out.size
   replace HB := am (below_alloc HB.out (.cells #[(), (), ()] 26))
   generalize w4.alloc (.cells #[(), (), ()] 26) = w5 at H2 H4 H8 HB ⊢
   generalize w4.heap.size = b8 at H8 g8 n2_8 n4_8 ⊢
   go_wp2_with fail
   go_loopw [28] (fun i' wr => ∃ k : Int, (0 ≤ k ∧ k ≤ 3) ∧ i' = .int .i64 k ∧ Aside0 (∀ q : Nat, q < k.toNat → E q = 0) ∧ Aside0 (wr.heap[b2]? = some (.cells #[p0, p1, p2, p3, p4, p5] 46 (0, 0))) ∧ Aside0 (wr.heap[b4]? = some (.cells #[(), (), ()] 26 (0, 0))) ∧ Aside0 (wr.heap[b8]? = some (.cells (rowT X k.toNat) 26 (0, 0))) ∧ Aside0 (Below w.heap.size w wr)) (fun i _ => 3 - (intOf i).toNat)
   case atStart => exact ⟨0, by omega, rfl, ⟨fun q hq => by simp at hq⟩, H2, H4, ⟨H8.out⟩, HB⟩
   case round =>
    clear HB H2 H4 H8
    obtain ⟨k, hk, rfl, HP, H2, H4, H8, HB⟩ := hrel
    by_cases h3 : k < 3
    ·
     skip
     have y2 : wr.cell? ⟨b2, k.toNat, none⟩ = some (.int .i64 (f3 p0 p1 p2 k.toNat)) := by
      refine (blk_cell H2.out _).trans ?_
      obtain rfl | rfl | rfl : k = 0 ∨ k = 1 ∨ k = 2 := by omega
      all_goals rfl
     go_wp2_with fail
     refine (HD.out k.toNat wr (HG.out.below HB.out)).mono ?_
     rintro e v1 ⟨rfl, hb⟩
     clear y2
     replace H2 := b_b H2 hb
     replace H4 := b_b H4 hb
     replace H8 := b_b H8 hb
     replace HB := b_s HB hb
     clear hb
     have y8 : v1.cell? ⟨b8, k.toNat, none⟩ = some (.int .i64 0) := by
      refine (blk_cell H8.out _).trans ?_
      obtain rfl | rfl | rfl : k = 0 ∨ k = 1 ∨ k = 2 := by omega
      all_goals rfl
     have f8 := b_z H8 k.toNat
     by_cases he : E k.toNat = 0
     ·
      skip
      have HGood := am (show ∀ q : Nat, q < k.toNat + 1 → E q = 0 from fun q hq => by
       by_cases hq2 : q < k.toNat
       ·
        exact HP.out q hq2
       obtain rfl : q = k.toNat := by omega
       exact he)
      go_wp2_with fail
      have q := blk_set H8.out k.toNat (.int .i64 (X k.toNat))
      rw [rowT_set X hk.1 h3] at q
      have qb := HB.out.setCell (p := ⟨b8, k.toNat, none⟩) g8 (.int .i64 (X k.toNat))
      have q2 := blk_far H2.out (p := ⟨b8, k.toNat, none⟩) n2_8 (.int .i64 (X k.toNat))
      have q4 := blk_far H4.out (p := ⟨b8, k.toNat, none⟩) n4_8 (.int .i64 (X k.toNat))
      go_roundw
      case rel => exact ⟨k + 1, by omega, rfl, ⟨by rw [show (k + 1).toNat = k.toNat + 1 by omega]; exact HGood.out⟩, ⟨q2⟩, ⟨q4⟩, ⟨by rw [show (k + 1).toNat = k.toNat + 1 by omega]; exact q⟩, ⟨qb⟩⟩
      case measure => simp [intOf]; omega
     skip
     obtain ⟨rfl, rfl, rfl, rfl⟩ := HNO.out k.toNat (by omega) HP.out he
     have z1 : (E k.toNat == 0) = false := by simp [he]
     have z2 : decide (E k.toNat = 0) = false := decide_eq_false he
     clear HNO HYES HP
     have q := blk_set H8.out k.toNat (.int .i64 (X k.toNat))
     rw [rowT_set X hk.1 h3] at q
     have qb := HB.out.setCell (p := ⟨b8, k.toNat, none⟩) g8 (.int .i64 (X k.toNat))
     have q2 := blk_far H2.out (p := ⟨b8, k.toNat, none⟩) n2_8 (.int .i64 (X k.toNat))
     have q4 := blk_far H4.out (p := ⟨b8, k.toNat, none⟩) n4_8 (.int .i64 (X k.toNat))
     go_upto_region 9 with fail
     clear y8 f8
     generalize v1.setCell ⟨b8, k.toNat, none⟩ (.int .i64 (X k.toNat)) = v2 at q qb q2 q4 ⊢
     replace HB := am qb
     replace H4 := am q4
     clear q q2 q4 qb H2 H8
     have y40 := b_v H4 0 (.int .i64 0) rfl
     have f40 := b_z H4 0
     have y41 := b_v H4 1 (.int .i64 0) rfl
     have f41 := b_z H4 1
     have y42 := b_v H4 2 (.int .i64 0) rfl
     have f42 := b_z H4 2
     go_wp2_with fail
     obtain ⟨q, qb⟩ := three_set rfl H4.out g4 HB.out (.int .i64 0) (.int .i64 0) (.int .i64 0)
     exact bodyPost_ret (results_ct rfl _ _ b4 26 _ (0, 0) _ rfl q Tryz.underlying26 rfl (by kernel_rfl)) rfl ⟨rfl, qb⟩
    skip
    have h3' : k = 3 := by omega
    subst h3'
    obtain ⟨rfl, rfl, rfl, rfl⟩ := HYES.out (fun q hq => HP.out q hq)
    replace H8 := am (show wr.heap[b8]? = some (.cells #[.int .i64 (X 0), .int .i64 (X 1), .int .i64 (X 2)] 26 (0, 0)) from H8.out)
    clear HP hk h3 HYES HNO
    have y80 := b_v H8 0 (.int .i64 (X 0)) rfl
    have y81 := b_v H8 1 (.int .i64 (X 1)) rfl
    have y82 := b_v H8 2 (.int .i64 (X 2)) rfl
    have y40 := b_v H4 0 (.int .i64 0) rfl
    have f40 := b_z H4 0
    have y41 := b_v H4 1 (.int .i64 0) rfl
    have f41 := b_z H4 1
    have y42 := b_v H4 2 (.int .i64 0) rfl
    have f42 := b_z H4 2
    go_wp2_with fail
    obtain ⟨q, qb⟩ := three_set rfl H4.out g4 HB.out (.int .i64 (X 0)) (.int .i64 (X 1)) (.int .i64 (X 2))
    exact bodyPost_ret (results_ct rfl _ _ b4 26 _ (0, 0) _ rfl q Tryz.underlying26 rfl (by kernel_rfl)) rfl ⟨rfl, qb⟩
 have z1 : (e0 == 0) = false := by simp [h0]
 have z2 : decide (e0 = 0) = false := decide_eq_false h0
 refine ⟨0, 0, 0, 1, fun w hG => ?_⟩
 have HG := am hG
 clear hG
 go_enter Tryz.func110, Tryz.ntmps110
 go_upto_region 1 with fail
 obtain ⟨x2', x4', hB⟩ := blocks2 w #[p0, p1, p2, p3, p4, p5] #[(), (), ()] 46 26
 generalize (w.alloc (.cells #[p0, p1, p2, p3, p4, p5] 46)).alloc (.cells #[(), (), ()] 26) = w1 at x2' x4' hB ⊢
 obtain ⟨b2, h2⟩ := e_x (w.heap.size)
 obtain ⟨b4, h4⟩ := e_x (w.heap.size + 1)
 have g2 : w.heap.size ≤ b2 := by omega
 have g4 : w.heap.size ≤ b4 := by omega
 have n2_4 : b2 ≠ b4 := by omega
 have n4_2 : b4 ≠ b2 := by omega
 rw [← h4, ← h2]
 rw [← h4] at x4'
 rw [← h2] at x2'
 have H2 := am x2'
 have H4 := am x4'
 have HB := am hB
 clear x2' x4' hB h2 h4
 have y20 := b_v H2 0 (.int .i64 p0) rfl
 have y21 := b_v H2 1 (.int .i64 p1) rfl
 have y22 := b_v H2 2 (.int .i64 p2) rfl
 have y23 := b_v H2 3 (.int .i64 p3) rfl
 have y24 := b_v H2 4 (.int .i64 p4) rfl
 have y25 := b_v H2 5 (.int .i64 p5) rfl
 go_wp2_with fail
 refine (HA.out w1 (HG.out.below HB.out)).mono ?_
 rintro e w2 ⟨rfl, hb⟩
 replace H2 := b_b H2 hb
 replace H4 := b_b H4 hb
 replace HB := b_s HB hb
 clear y20 y21 y22 y23 y24 y25
 clear hb
 go_upto_region 2 with fail
 replace H2 := am (blk_alloc H2.out (.cells #[n0, n1, n2, n3, n4, n5] 46))
 replace H4 := am (blk_alloc H4.out (.cells #[n0, n1, n2, n3, n4, n5] 46))
 replace HB := am (below_alloc HB.out (.cells #[n0, n1, n2, n3, n4, n5] 46))
 generalize w2.alloc (.cells #[n0, n1, n2, n3, n4, n5] 46) = w3 at H2 H4 HB ⊢
 generalize w2.heap.size = b6
 have y40 := b_v H4 0 (.int .i64 0) rfl
 have f40 := b_z H4 0
 have y41 := b_v H4 1 (.int .i64 0) rfl
 have f41 := b_z H4 1
 have y42 := b_v H4 2 (.int .i64 0) rfl
 have f42 := b_z H4 2
 go_wp2_with fail
 obtain ⟨q, qb⟩ := three_set rfl H4.out g4 HB.out (.int .i64 0) (.int .i64 0) (.int .i64 0)
 exact bodyPost_ret (results_ct rfl _ _ b4 26 _ (0, 0) _ rfl q Tryz.underlying26 rfl (by kernel_rfl)) rfl ⟨rfl, qb⟩
set_option maxRecDepth 100000 in
set_option maxHeartbeats 4000000 in
theorem of1_tells (p0 p1 p2 p3 p4 p5 sp r0 r1 r2 e : Int) (hb : Tells 110 #[sym p0 p1 p2 p3 p4 p5, sp] (.tuple #[vec r0 r1 r2, e])) (bp bs : Nat) (w : World) (hG : G w) (hp : w.heap[bp]? = some (.cells #[p0, p1, p2, p3, p4, p5] 46 (0, 0))) (hs : w.heap[bs]? = some (.cells #[sp] 2 (0, 0))) :
  Calls Tryz.prog 109 #[.pointer (some ⟨bp, 0, none⟩), .pointer (some ⟨bs, 0, none⟩)] w fun e' w' => e' = .returned (.tuple #[vec r0 r1 r2, e]) ∧ Below w.heap.size w w' := by
 have HBe := am hb
 have HP := am hp
 have HS := am hs
 clear hb hp hs
 unfold sym vec at *
 have HG := am hG
 clear hG
 go_enter Tryz.func109, Tryz.ntmps109
 go_upto_region 1 with fail
 replace HP := am (blk_alloc HP.out (.cells #[(), (), ()] 26))
 replace HS := am (blk_alloc HS.out (.cells #[(), (), ()] 26))
 have x2' := blk_new w (.cells #[(), (), ()] 26)
 have HB := am (below_alloc (Below.refl w.heap.size w) (.cells #[(), (), ()] 26))
 generalize w.alloc (.cells #[(), (), ()] 26) = w1 at x2' HB HP HS ⊢
 obtain ⟨b2, h2⟩ := e_x (w.heap.size)
 have g2 : w.heap.size ≤ b2 := by omega
 rw [← h2] at x2' ⊢
 have H2 := am x2'
 clear x2' h2
 have yp0 := b_v HP 0 (.int .i64 p0) rfl
 have yp1 := b_v HP 1 (.int .i64 p1) rfl
 have yp2 := b_v HP 2 (.int .i64 p2) rfl
 have yp3 := b_v HP 3 (.int .i64 p3) rfl
 have yp4 := b_v HP 4 (.int .i64 p4) rfl
 have yp5 := b_v HP 5 (.int .i64 p5) rfl
 have ys := b_v HS 0 (.int .i64 sp) rfl
 go_wp2_with fail
 refine (HBe.out w1 (HG.out.below HB.out)).mono ?_
 rintro e' w2 ⟨rfl, hb⟩
 clear yp0 yp1 yp2 yp3 yp4 yp5 ys
 replace H2 := b_b H2 hb
 replace HB := b_s HB hb
 clear hb
 have y20 := b_v H2 0 (.int .i64 0) rfl
 have f20 := b_z H2 0
 have y21 := b_v H2 1 (.int .i64 0) rfl
 have f21 := b_z H2 1
 have y22 := b_v H2 2 (.int .i64 0) rfl
 have f22 := b_z H2 2
 go_wp2_with fail
 obtain ⟨q, qb⟩ := three_set rfl H2.out g2 HB.out (.int .i64 r0) (.int .i64 r1) (.int .i64 r2)
 exact bodyPost_ret (results_ct rfl _ _ b2 26 _ (0, 0) _ rfl q Tryz.underlying26 rfl (by kernel_rfl)) rfl ⟨rfl, qb⟩
set_option maxRecDepth 100000 in
set_option maxHeartbeats 4000000 in
theorem of2_tells (t0 t1 t2 r0 r1 r2 e : Int) (hb : Tells 96 #[vec t0 t1 t2, vec 0 0 0] (.tuple #[vec r0 r1 r2, e])) (bt : Nat) (w : World) (hG : G w) (ht : w.heap[bt]? = some (.cells #[t0, t1, t2] 26 (0, 0))) :
  Calls Tryz.prog 111 #[.pointer (some ⟨bt, 0, none⟩)] w fun e' w' => e' = .returned (.tuple #[vec r0 r1 r2, e]) ∧ Below w.heap.size w w' := by
 have HBe := am hb
 have HT := am ht
 clear hb ht
 unfold vec at *
 have HG := am hG
 clear hG
 go_enter Tryz.func111, Tryz.ntmps111
 go_upto_region 1 with fail
 replace HT := am (blk_alloc HT.out (.cells #[(), (), ()] 26))
 have x1' := blk_new w (.cells #[(), (), ()] 26)
 have HB := am (below_alloc (Below.refl w.heap.size w) (.cells #[(), (), ()] 26))
 generalize w.alloc (.cells #[(), (), ()] 26) = w1 at x1' HB HT ⊢
 obtain ⟨b1, h1⟩ := e_x (w.heap.size)
 have g1 : w.heap.size ≤ b1 := by omega
 rw [← h1] at x1' ⊢
 have H1 := am x1'
 clear x1' h1
 have yt0 := b_v HT 0 (.int .i64 t0) rfl
 have yt1 := b_v HT 1 (.int .i64 t1) rfl
 have yt2 := b_v HT 2 (.int .i64 t2) rfl
 go_wp2_with fail
 refine (HBe.out w1 (HG.out.below HB.out)).mono ?_
 rintro e' w2 ⟨rfl, hb⟩
 clear yt0 yt1 yt2
 replace H1 := b_b H1 hb
 replace HB := b_s HB hb
 clear hb
 have y10 := b_v H1 0 (.int .i64 0) rfl
 have f10 := b_z H1 0
 have y11 := b_v H1 1 (.int .i64 0) rfl
 have f11 := b_z H1 1
 have y12 := b_v H1 2 (.int .i64 0) rfl
 have f12 := b_z H1 2
 go_wp2_with fail
 obtain ⟨q, qb⟩ := three_set rfl H1.out g1 HB.out (.int .i64 r0) (.int .i64 r1) (.int .i64 r2)
 exact bodyPost_ret (results_ct rfl _ _ b1 26 _ (0, 0) _ rfl q Tryz.underlying26 rfl (by kernel_rfl)) rfl ⟨rfl, qb⟩
set_option maxRecDepth 100000 in
set_option maxHeartbeats 4000000 in
theorem gof_tells (p0 p1 p2 p3 p4 p5 sp t0 t1 t2 : Int) (sh : Bool) : ∃ r0 r1 r2 e, Tells 74 #[sym p0 p1 p2 p3 p4 p5, sp, .bool sh, vec t0 t1 t2] (.tuple #[vec r0 r1 r2, .int .i64 e]) := by
 cases sh with
 | false =>
  obtain ⟨r0, r1, r2, e, hb⟩ := best_tells p0 p1 p2 p3 p4 p5 sp
  have HBe := am hb
  clear hb
  refine ⟨r0, r1, r2, e, fun w hG => ?_⟩
  have hmk := mk_func
  unfold sym vec
  have HG := am hG
  clear hG
  go_enter Tryz.func74, Tryz.ntmps74
  go_upto_region 1 with fail
  obtain ⟨x4', x5', x7', x8', hB⟩ := blocks4 w #[p0, p1, p2, p3, p4, p5] #[sp] #[t0, t1, t2] #[(), (), ()] 46 2 26 26
  generalize (((w.alloc (.cells #[p0, p1, p2, p3, p4, p5] 46)).alloc (.cells #[sp] 2)).alloc (.cells #[t0, t1, t2] 26)).alloc (.cells #[(), (), ()] 26) = w1 at x4' x5' x7' x8' hB ⊢
  obtain ⟨b4, h4⟩ := e_x (w.heap.size)
  obtain ⟨b5, h5⟩ := e_x (w.heap.size + 1)
  obtain ⟨b7, h7⟩ := e_x (w.heap.size + 1 + 1)
  obtain ⟨b8, h8⟩ := e_x (w.heap.size + 1 + 1 + 1)
  have g4 : w.heap.size ≤ b4 := by omega
  have g5 : w.heap.size ≤ b5 := by omega
  have g7 : w.heap.size ≤ b7 := by omega
  have g8 : w.heap.size ≤ b8 := by omega
  have n4_5 : b4 ≠ b5 := by omega
  have n4_7 : b4 ≠ b7 := by omega
  have n4_8 : b4 ≠ b8 := by omega
  have n5_4 : b5 ≠ b4 := by omega
  have n5_7 : b5 ≠ b7 := by omega
  have n5_8 : b5 ≠ b8 := by omega
  have n7_4 : b7 ≠ b4 := by omega
  have n7_5 : b7 ≠ b5 := by omega
  have n7_8 : b7 ≠ b8 := by omega
  have n8_4 : b8 ≠ b4 := by omega
  have n8_5 : b8 ≠ b5 := by omega
  have n8_7 : b8 ≠ b7 := by omega
  rw [← h8, ← h7, ← h5, ← h4]
  rw [← h8] at x8'
  rw [← h7] at x7'
  rw [← h5] at x5'
  rw [← h4] at x4'
  have H4 := am x4'
  have H5 := am x5'
  have H7 := am x7'
  have H8 := am x8'
  have HB := am hB
  clear x4' x5' x7' x8' hB h4 h5 h7 h8
  go_upto_region 2 with fail
  replace H4 := am (blk_alloc H4.out (.cells #[.func (.func 109) #[] #[.pointer (some ⟨b4, 0, none⟩), .pointer (some ⟨b5, 0, none⟩)]] 154))
  replace H5 := am (blk_alloc H5.out (.cells #[.func (.func 109) #[] #[.pointer (some ⟨b4, 0, none⟩), .pointer (some ⟨b5, 0, none⟩)]] 154))
  replace H7 := am (blk_alloc H7.out (.cells #[.func (.func 109) #[] #[.pointer (some ⟨b4, 0, none⟩), .pointer (some ⟨b5, 0, none⟩)]] 154))
  replace H8 := am (blk_alloc H8.out (.cells #[.func (.func 109) #[] #[.pointer (some ⟨b4, 0, none⟩), .pointer (some ⟨b5, 0, none⟩)]] 154))
  have H10 := am (blk_new w1 (.cells #[.func (.func 109) #[] #[.pointer (some ⟨b4, 0, none⟩), .pointer (some ⟨b5, 0, none⟩)]] 154))
  have g10 : w.heap.size ≤ w1.heap.size := HB.out.size
  replace HB := am (below_alloc HB.out (.cells #[.func (.func 109) #[] #[.pointer (some ⟨b4, 0, none⟩), .pointer (some ⟨b5, 0, none⟩)]] 154))
  generalize w1.alloc (.cells #[.func (.func 109) #[] #[.pointer (some ⟨b4, 0, none⟩), .pointer (some ⟨b5, 0, none⟩)]] 154) = w2 at H4 H5 H7 H8 H10 HB ⊢
  generalize w1.heap.size = b10 at H10 g10 ⊢
  have y10 := b_v H10 0 (.func (.func 109) #[] #[.pointer (some ⟨b4, 0, none⟩), .pointer (some ⟨b5, 0, none⟩)]) rfl
  go_wp2_with fail
  refine (of1_tells p0 p1 p2 p3 p4 p5 sp r0 r1 r2 e HBe.out b4 b5 w2 (HG.out.below HB.out) H4.out H5.out).mono ?_
  rintro e' w3 ⟨rfl, hb⟩
  clear y10
  replace H8 := b_b H8 hb
  replace HB := b_s HB hb
  clear hb
  unfold vec
  have y80 := b_v H8 0 (.int .i64 0) rfl
  have f80 := b_z H8 0
  have y81 := b_v H8 1 (.int .i64 0) rfl
  have f81 := b_z H8 1
  have y82 := b_v H8 2 (.int .i64 0) rfl
  have f82 := b_z H8 2
  go_wp2_with fail
  obtain ⟨q, qb⟩ := three_set rfl H8.out g8 HB.out (.int .i64 r0) (.int .i64 r1) (.int .i64 r2)
  exact bodyPost_ret (results_ct rfl _ _ b8 26 _ (0, 0) _ rfl q Tryz.underlying26 rfl (by kernel_rfl)) rfl ⟨rfl, qb⟩
 | true =>
  obtain ⟨r0, r1, r2, e, hb⟩ := vadd_tells t0 t1 t2 0 0 0
  have HBe := am hb
  clear hb
  refine ⟨r0, r1, r2, e, fun w hG => ?_⟩
  have hmk := mk_func
  unfold sym vec
  have HG := am hG
  clear hG
  go_enter Tryz.func74, Tryz.ntmps74
  go_upto_region 1 with fail
  obtain ⟨x4', x5', x7', x8', hB⟩ := blocks4 w #[p0, p1, p2, p3, p4, p5] #[sp] #[t0, t1, t2] #[(), (), ()] 46 2 26 26
  generalize (((w.alloc (.cells #[p0, p1, p2, p3, p4, p5] 46)).alloc (.cells #[sp] 2)).alloc (.cells #[t0, t1, t2] 26)).alloc (.cells #[(), (), ()] 26) = w1 at x4' x5' x7' x8' hB ⊢
  obtain ⟨b4, h4⟩ := e_x (w.heap.size)
  obtain ⟨b5, h5⟩ := e_x (w.heap.size + 1)
  obtain ⟨b7, h7⟩ := e_x (w.heap.size + 1 + 1)
  obtain ⟨b8, h8⟩ := e_x (w.heap.size + 1 + 1 + 1)
  have g4 : w.heap.size ≤ b4 := by omega
  have g5 : w.heap.size ≤ b5 := by omega
  have g7 : w.heap.size ≤ b7 := by omega
  have g8 : w.heap.size ≤ b8 := by omega
  have n4_5 : b4 ≠ b5 := by omega
  have n4_7 : b4 ≠ b7 := by omega
  have n4_8 : b4 ≠ b8 := by omega
  have n5_4 : b5 ≠ b4 := by omega
  have n5_7 : b5 ≠ b7 := by omega
  have n5_8 : b5 ≠ b8 := by omega
  have n7_4 : b7 ≠ b4 := by omega
  have n7_5 : b7 ≠ b5 := by omega
  have n7_8 : b7 ≠ b8 := by omega
  have n8_4 : b8 ≠ b4 := by omega
  have n8_5 : b8 ≠ b5 := by omega
  have n8_7 : b8 ≠ b7 := by omega
  rw [← h8, ← h7, ← h5, ← h4]
  rw [← h8] at x8'
  rw [← h7] at x7'
  rw [← h5] at x5'
  rw [← h4] at x4'
  have H4 := am x4'
  have H5 := am x5'
  have H7 := am x7'
  have H8 := am x8'
  have HB := am hB
  clear x4' x5' x7' x8' hB h4 h5 h7 h8
  go_upto_region 2 with fail
  have n7_10 : b7 ≠ w1.heap.size := Nat.ne_of_lt (blk_lt H7.out)
  have n8_10 : b8 ≠ w1.heap.size := Nat.ne_of_lt (blk_lt H8.out)
  replace H4 := am (blk_alloc H4.out (.cells #[.func (.func 109) #[] #[.pointer (some ⟨b4, 0, none⟩), .pointer (some ⟨b5, 0, none⟩)]] 154))
  replace H5 := am (blk_alloc H5.out (.cells #[.func (.func 109) #[] #[.pointer (some ⟨b4, 0, none⟩), .pointer (some ⟨b5, 0, none⟩)]] 154))
  replace H7 := am (blk_alloc H7.out (.cells #[.func (.func 109) #[] #[.pointer (some ⟨b4, 0, none⟩), .pointer (some ⟨b5, 0, none⟩)]] 154))
  replace H8 := am (blk_alloc H8.out (.cells #[.func (.func 109) #[] #[.pointer (some ⟨b4, 0, none⟩), .pointer (some ⟨b5, 0, none⟩)]] 154))
  have H10 := am (blk_new w1 (.cells #[.func (.func 109) #[] #[.pointer (some ⟨b4, 0, none⟩), .pointer (some ⟨b5, 0, none⟩)]] 154))
  have g10 : w.heap.size ≤ w1.heap.size := HB.out.size
  replace HB := am (below_alloc HB.out (.cells #[.func (.func 109) #[] #[.pointer (some ⟨b4, 0, none⟩), .pointer (some ⟨b5, 0, none⟩)]] 154))
  generalize w1.alloc (.cells #[.func (.func 109) #[] #[.pointer (some ⟨b4, 0, none⟩), .pointer (some ⟨b5, 0, none⟩)]] 154) = w2 at H4 H5 H7 H8 H10 HB ⊢
  generalize w1.heap.size = b10 at H10 g10 n7_10 n8_10 ⊢
  have y10 := b_v H10 0 (.func (.func 109) #[] #[.pointer (some ⟨b4, 0, none⟩), .pointer (some ⟨b5, 0, none⟩)]) rfl
  have f10 := b_z H10 0
  go_upto_region 4 with fail
  clear y10 f10
  have q := blk_set H10.out 0 (.func (.func 111) #[] #[.pointer (some ⟨b7, 0, none⟩)])
  have qb := HB.out.setCell (p := ⟨b10, 0, none⟩) g10 (.func (.func 111) #[] #[.pointer (some ⟨b7, 0, none⟩)])
  have q7 := blk_far H7.out (p := ⟨b10, 0, none⟩) n7_10 (.func (.func 111) #[] #[.pointer (some ⟨b7, 0, none⟩)])
  have q8 := blk_far H8.out (p := ⟨b10, 0, none⟩) n8_10 (.func (.func 111) #[] #[.pointer (some ⟨b7, 0, none⟩)])
  clear H10 H7 H8 HB H4 H5
  generalize w2.setCell ⟨b10, 0, none⟩ (.func (.func 111) #[] #[.pointer (some ⟨b7, 0, none⟩)]) = w3 at q qb q7 q8 ⊢
  have HB := am qb
  have H7 := am q7
  have H8 := am q8
  have y10 := bcv q 0 (.func (.func 111) #[] #[.pointer (some ⟨b7, 0, none⟩)]) rfl
  clear q qb q7 q8
  go_wp2_with fail
  refine (of2_tells t0 t1 t2 r0 r1 r2 e HBe.out b7 w3 (HG.out.below HB.out) H7.out).mono ?_
  rintro e' w4 ⟨rfl, hb⟩
  clear y10
  replace H8 := b_b H8 hb
  replace HB := b_s HB hb
  clear hb
  unfold vec
  have y80 := b_v H8 0 (.int .i64 0) rfl
  have f80 := b_z H8 0
  have y81 := b_v H8 1 (.int .i64 0) rfl
  have f81 := b_z H8 1
  have y82 := b_v H8 2 (.int .i64 0) rfl
  have f82 := b_z H8 2
  go_wp2_with fail
  obtain ⟨q, qb⟩ := three_set rfl H8.out g8 HB.out (.int .i64 r0) (.int .i64 r1) (.int .i64 r2)
  exact bodyPost_ret (results_ct rfl _ _ b8 26 _ (0, 0) _ rfl q Tryz.underlying26 rfl (by kernel_rfl)) rfl ⟨rfl, qb⟩
end Go.Proofs.YtpdahkgandaabaaGreatDoor.Ch
