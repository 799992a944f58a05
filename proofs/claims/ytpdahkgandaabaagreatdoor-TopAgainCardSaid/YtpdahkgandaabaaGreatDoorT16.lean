/- A part of the proof of TopAgain, where the package's tables hold what their initialisers lay. -/
import Derived.ScopeJumps
import Derived.Test.YtpdahkgandaabaaGreatDoorT01
import Derived.Test.YtpdahkgandaabaaGreatDoorT06
import Derived.Test.YtpdahkgandaabaaGreatDoorT08
namespace Go.Proofs.YtpdahkgandaabaaGreatDoor.Ch
open Go.RowKit Go.Proofs.YtpdahkgandaabaaGreatDoorW.PrintWords Go.Proofs.YtpdahkgandaabaaGreatDoorW.PrintLast Go.Proofs.YtpdahkgandaabaaGreatDoorW.PrintMore Go.Proofs.YtpdahkgandaabaaGreatDoor.PTopNames Go.Proofs.YtpdahkgandaabaaGreatDoor.Al
set_option linter.unusedVariables false
set_option linter.unusedSimpArgs false
theorem cmp_some (h l h' l' : Int) : ∃ k r, wide_Cmp.f k h l h' l' = some r := by
 refine ⟨5, ?_⟩
 unfold wide_Cmp.f
 have a : ∃ r, cmp_Compare_int64.f h h' = some r := by
  unfold cmp_Compare_int64.f cmp_isNaN_int64.f
  simp
  split
  ·
   exact ⟨_, rfl⟩
  split
  ·
   exact ⟨_, rfl⟩
  exact ⟨_, rfl⟩
 have b : ∃ r, cmp_Compare_uint64.f l l' = some r := by
  unfold cmp_Compare_uint64.f cmp_isNaN_uint64.f
  simp
  split
  ·
   exact ⟨_, rfl⟩
  split
  ·
   exact ⟨_, rfl⟩
  exact ⟨_, rfl⟩
 obtain ⟨x, hx⟩ := a
 obtain ⟨y, hy⟩ := b
 rw [hx, hy]
 have key : ∃ r, cmp_Or_int.f 5 [x, y] = some r := by
  unfold cmp_Or_int.f
  by_cases h1 : x = 0
  ·
   by_cases h2 : y = 0
   ·
    subst h1; subst h2; exact ⟨0, by simp [cmp_Or_int.l0, rd, wrap64]⟩
   refine ⟨y, ?_⟩
   subst h1
   simp [cmp_Or_int.l0, rd, wrap64, h2]
  refine ⟨x, ?_⟩
  simp [cmp_Or_int.l0, rd, wrap64, h1]
 obtain ⟨r, hr⟩ := key
 exact ⟨r, by simp [hr]⟩
set_option maxRecDepth 100000 in
set_option maxHeartbeats 4000000 in
theorem right_some (y s : Int) : ∃ r, gate_right.f y s = some r := by
 have F : ∀ x, ∃ b, fix_Fits.f x = some b := by
  intro x
  unfold fix_Fits.f
  by_cases h : x ≥ -288230376151711744
  ·
   rw [if_pos h]; exact ⟨_, rfl⟩
  rw [if_neg h]; exact ⟨_, rfl⟩
 obtain ⟨a, ha⟩ := F y
 obtain ⟨b, hb⟩ := F s
 unfold gate_right.f
 rw [ha, hb]
 cases a <;> cases b <;> exact ⟨_, rfl⟩
set_option maxRecDepth 100000 in
set_option maxHeartbeats 4000000 in
theorem pass_tells (y s g : Int) : ∃ k, Tells 73 #[y, s, g] (.bool k) := by
 obtain ⟨rr, hr⟩ := right_some y s
 obtain ⟨h0, l0, u0, hm⟩ := mul_tells g s
 obtain ⟨h1, l1, e1, u1, hu⟩ := up_tells h0 l0 40 u0 (by decide) (by decide)
 obtain ⟨h2, l2, u2, hs⟩ := mul_tells y y
 obtain ⟨kk, r, hc⟩ := cmp_some h2 l2 h1 l1
 have HR := am hr
 have HM := am hm
 have HU := am hu
 have HS := am hs
 have HC := am hc
 clear hr hm hu hs hc u0 u1 u2
 cases rr with
 | false =>
  refine ⟨false, fun w hG => ?_⟩
  have HG := am hG
  clear hG
  unfold wide at HM HU HS HC
  go_enter Tryz.func73, Tryz.ntmps73
  go_wp2_with fail
  refine (gate_right.calls y s _ w HR.out).mono ?_
  rintro e w1 ⟨rfl, hd⟩
  have HB := am hd.below
  clear hd
  go_wp2_with fail
  go_ret
  exact ⟨rfl, HB.out⟩
 | true =>
  by_cases c1 : g < 0
  ·
   have p1 : decide (g < 0) = true := decide_eq_true c1
   refine ⟨false, fun w hG => ?_⟩
   have HG := am hG
   clear hG
   unfold wide at HM HU HS HC
   go_enter Tryz.func73, Tryz.ntmps73
   go_wp2_with fail
   refine (gate_right.calls y s _ w HR.out).mono ?_
   rintro e w1 ⟨rfl, hd⟩
   have HB := am hd.below
   clear hd
   go_wp2_with fail
   go_ret
   exact ⟨rfl, HB.out⟩
  have p1 : decide (g < 0) = false := decide_eq_false c1
  by_cases c2 : 1000 < g
  ·
   have p2 : decide (1000 < g) = true := decide_eq_true c2
   refine ⟨false, fun w hG => ?_⟩
   have HG := am hG
   clear hG
   unfold wide at HM HU HS HC
   go_enter Tryz.func73, Tryz.ntmps73
   go_wp2_with fail
   refine (gate_right.calls y s _ w HR.out).mono ?_
   rintro e w1 ⟨rfl, hd⟩
   have HB := am hd.below
   clear hd
   go_wp2_with fail
   go_ret
   exact ⟨rfl, HB.out⟩
  have p2 : decide (1000 < g) = false := decide_eq_false c2
  refine ⟨decide (r ≤ 0), fun w hG => ?_⟩
  have HG := am hG
  clear hG
  unfold wide at HM HU HS HC
  go_enter Tryz.func73, Tryz.ntmps73
  go_wp2_with fail
  refine (gate_right.calls y s _ w HR.out).mono ?_
  rintro e w1 ⟨rfl, hd⟩
  have HB := am hd.below
  clear hd
  go_wp2_with fail
  refine (HM.out w1 (HG.out.below HB.out)).mono ?_
  rintro e w2 ⟨rfl, hb⟩
  replace HB := b_s HB hb
  clear hb
  go_wp2_with fail
  refine (HU.out w2 (HG.out.below HB.out)).mono ?_
  rintro e w3 ⟨rfl, hb⟩
  replace HB := b_s HB hb
  clear hb
  go_upto_region 4 with fail
  have H7 := am (blk_new w3 (.cells #[h1, .int .u64 l1] 124))
  have g7 : w.heap.size ≤ w3.heap.size := HB.out.size
  replace HB := am (below_alloc HB.out (.cells #[h1, .int .u64 l1] 124))
  generalize w3.alloc (.cells #[h1, .int .u64 l1] 124) = w4 at H7 HB ⊢
  generalize w3.heap.size = b7 at H7 g7 ⊢
  refine s_t 7 (fun w' => w'.heap[b7]? = some (.cells #[h1, .int .u64 l1] 124 (0, 0))) H7.out (fun hHeld => ?_)
  replace H7 := b_d H7
  replace HB := am (below_drew HB.out)
  generalize w4.drew = wd at H7 HB hHeld ⊢
  refine p_u 0 28 7 1 ?_
  refine p_u 1 29 7 3 ?_
  refine t_a 3 31 7 11 hHeld ?_ (hv := by rintro w' s0; have x0 := bcv s0 0 (.int .i64 h1) rfl; have x1 := bcv s0 1 (.int .u64 l1) rfl; go_simp; with_reducible rfl)
  refine o_n 2 30 7 15 fun K hK => ?_
  refine g_s Tryz.func98 #[y, y] ?_
  refine (HS.out wd (HG.out.below HB.out)).mono ?_
  rintro e wa ⟨rfl, hb⟩
  replace H7 := b_b H7 hb
  replace HB := b_s HB hb
  clear hb hHeld
  refine ⟨_, rfl, ?_⟩
  refine hK.out _ _ H7.out (fun hHeld => ?_)
  clear hK K
  refine n_o 30 ?_
  refine o_n 4 32 7 31 fun K hK => ?_
  refine g_s Tryz.func108 #[.agg #[h2, .int .u64 l2], .agg #[h1, .int .u64 l1]] ?_
  refine (wide_Cmp.calls kk h2 l2 h1 l1 r wa HC.out).mono ?_
  rintro e wb ⟨rfl, hb⟩
  replace H7 := b_b H7 hb
  replace HB := b_s HB hb
  clear hb hHeld
  refine ⟨_, rfl, ?_⟩
  refine hK.out _ _ H7.out (fun hHeld => ?_)
  clear hK K
  refine n_o 32 ?_
  refine p_u 5 33 7 63 ?_
  refine p_u 6 6 7 127 ?_
  refine d_n ?_
  go_wp2_with fail
  go_ret
  exact ⟨rfl, HB.out⟩
theorem scope_jumps2 {P : Program} {a : Act} {w : World} {Q : Exit → Act → World → Prop} {c rest : Code} (l : Nat) (J : Act → World → Prop) (μ : Act → World → Nat) (hf : findLabel c l = some (.seq .skip rest))
  (pass : ∀ a w, J a w → rest.wp P (Exit.jump l (fun a' w' => J a' w' ∧ μ a' w' < μ a w) Q) a w)
  (first : (∀ a w, J a w → rest.wp P (Exit.jump l J Q) a w) → c.wp P (Exit.jump l J Q) a w) : (Code.scope c).wp P Q a w :=
 wp_scope_jumps l J μ hf (first (fun a w hJ => wp_mono (pass a w hJ) (fun e a w h => by cases e <;> first | exact h | exact ⟨h.1, h.2.1⟩))) (fun a w hJ => wp_seq (wp_skip (pass a w hJ)))
theorem plus_fn : ∃ F : Int → Int → Int → Int → Int × Int, ∀ a b c d, U b → U d → U (F a b c d).2 ∧ Tells 123 #[wide a b, wide c d] (wide (F a b c d).1 (F a b c d).2) := by
 have key : ∀ a b c d : Int, ∃ r : Int × Int, U b → U d → U r.2 ∧ Tells 123 #[wide a b, wide c d] (wide r.1 r.2) := by
  intro a b c d
  by_cases h : U b ∧ U d
  ·
   obtain ⟨x, y, hu, ht⟩ := plus_tells a b c d h.1 h.2
   exact ⟨(x, y), fun _ _ => ⟨hu, ht⟩⟩
  exact ⟨(0, 0), fun h1 h2 => absurd ⟨h1, h2⟩ h⟩
 exact ⟨fun a b c d => (key a b c d).choose, fun a b c d => (key a b c d).choose_spec⟩
structure PS where
 hi : Int
 lo : Int
 rest : Int
 qh : Int
 ql : Int
def PS.r1 (s : PS) : Int := Go.bits .or .u64 (IntKind.u64.wrap (s.rest * 2)) (s.hi / 9223372036854775808)
def PS.h1 (s : PS) : Int := Go.bits .or .u64 (IntKind.u64.wrap (s.hi * 2)) (s.lo / 9223372036854775808)
def PS.l1 (s : PS) : Int := IntKind.u64.wrap (s.lo * 2)
def PS.q1 (F : Int → Int → Int → Int → Int × Int) (s : PS) : Int × Int := F s.qh s.ql s.qh s.ql
def PS.next (F : Int → Int → Int → Int → Int × Int) (b : Int) (s : PS) : PS :=
 if b ≤ s.r1 then ⟨s.h1, s.l1, IntKind.u64.wrap (s.r1 - b), (F (s.q1 F).1 (s.q1 F).2 0 1).1, (F (s.q1 F).1 (s.q1 F).2 0 1).2⟩ else ⟨s.h1, s.l1, s.r1, (s.q1 F).1, (s.q1 F).2⟩
def PS.iter (F : Int → Int → Int → Int → Int × Int) (b : Int) (s : PS) : Nat → PS
 | 0 => s
 | n + 1 => (PS.iter F b s n).next F b
set_option maxRecDepth 100000 in
set_option maxHeartbeats 4000000 in
theorem parts_tells (h l b : Int) (hl : U l) : ∃ h' l' r, U l' ∧ Tells 161 #[wide h l, .int .u64 b] (.tuple #[wide h' l', .int .u64 r]) := by
 obtain ⟨F, hF⟩ := plus_fn
 obtain ⟨nh, nl, nu, hL⟩ := less_tells 0 0 h l ⟨by decide, by decide⟩ hl
 have HF := am hF
 have HL := am hL
 have hU : ∀ s0 : PS, U s0.ql → ∀ k, U (PS.iter F b s0 k).ql := by
  intro s0 hs k
  induction k with
  | zero => exact hs
  | succ k ih =>
   have h1 : U (F (PS.iter F b s0 k).qh (PS.iter F b s0 k).ql (PS.iter F b s0 k).qh (PS.iter F b s0 k).ql).2 := (hF _ _ _ _ ih ih).1
   show U (PS.next F b (PS.iter F b s0 k)).ql
   unfold PS.next
   split
   ·
    exact (hF _ _ _ _ h1 ⟨by decide, by decide⟩).1
   exact h1
 clear hF hL
 by_cases h0 : h < 0
 ·
  have d0 : decide (h < 0) = true := decide_eq_true h0
  obtain ⟨s0, hs0⟩ : ∃ s : PS, s = ⟨IntKind.u64.wrap nh, nl, 0, 0, 0⟩ := ⟨_, rfl⟩
  have HU := am (hU s0 (by rw [hs0]; exact (show U 0 from ⟨by decide, by decide⟩)))
  clear hU hl nu h0
  refine ⟨(PS.iter F b s0 128).qh, (PS.iter F b s0 128).ql, (PS.iter F b s0 128).rest, HU.out 128, fun w hG => ?_⟩
  have HG := am hG
  clear hG
  unfold wide at HL ⊢
  go_enter Tryz.func161, Tryz.ntmps161
  go_wp2
  refine scope_jumps2 0 (fun a' w' => ∃ (k b4 : Nat) (i : Int) (s : PS) (u0 u2 u3 u8 u10 u11 u12 u13 u14 u15 u16 u17 u18 u19 u20 u21 u22 u23 u24 u25 u26 u27 u28 u29 u30 u31 u32 u33 u34 u35 u36 u37 u38 u39 u40 u41 u42 u43 u44 u45 u46 u47 u48 u49 u50 u51 u52 u53 u54 u55 : Value), a' = { tmps := #[u0, .int .u64 b, u2, u3, .pointer (some ⟨b4, 0, none⟩), .int .u64 s.rest, .int .u64 s.hi, .int .u64 s.lo, u8, .int .i64 i, u10, u11, u12, u13, u14, u15, u16, u17, u18, u19, u20, u21, u22, u23, u24, u25, u26, u27, u28, u29, u30, u31, u32, u33, u34, u35, u36, u37, u38, u39, u40, u41, u42, u43, u44, u45, u46, u47, u48, u49, u50, u51, u52, u53, u54, u55], defers := [] } ∧ i = 128 - (k : Int) ∧ s = PS.iter F b s0 k ∧ k ≤ 128 ∧ w.heap.size ≤ b4 ∧ Aside0 (w'.heap[b4]? = some (.cells #[s.qh, .int .u64 s.ql] 124 (0, 0))) ∧ Aside0 (Below w.heap.size w w')) (fun a' _ => (intOf (a'.tmps.getD 9 undef)).toNat) rfl ?_ (fun pass => ?_)
  ·
   rintro a' w' ⟨k, b4, i, sk, u0, u2, u3, u8, u10, u11, u12, u13, u14, u15, u16, u17, u18, u19, u20, u21, u22, u23, u24, u25, u26, u27, u28, u29, u30, u31, u32, u33, u34, u35, u36, u37, u38, u39, u40, u41, u42, u43, u44, u45, u46, u47, u48, u49, u50, u51, u52, u53, u54, u55, rfl, hi, hs0, hk, g4, HX, HB⟩
   subst hi
   replace hs0 := hs0.symm
   have HNX := am (show PS.iter F b s0 (k + 1) = sk.next F b by rw [← hs0]; rfl)
   have HUK := am (show U sk.ql by rw [← hs0]; exact HU.out k)
   have HSK := am hs0
   clear hs0
   obtain ⟨hi, lo, rest, qh, ql⟩ := sk
   replace HX := am (show w'.heap[b4]? = some (.cells #[qh, .int .u64 ql] 124 (0, 0)) from HX.out)
   by_cases hlt : k < 128
   ·
    have q0 : ((128 - (k : Int)) == 0) = false := by simp; omega
    have q0' : decide (128 - (k : Int) = 0) = false := decide_eq_false (by omega)
    have e1 : wrap64 (128 - (k : Int) - 1) = 128 - ((k + 1 : Nat) : Int) := by unfold wrap64; omega
    have y40 := b_l HX 0 rfl
    have y41 := b_l HX 1 rfl
    obtain ⟨r1, hr1⟩ : ∃ r, r = PS.r1 ⟨hi, lo, rest, qh, ql⟩ := ⟨_, rfl⟩
    obtain ⟨qa, hqa⟩ : ∃ r, r = F qh ql qh ql := ⟨_, rfl⟩
    have T1 := HF.out qh ql qh ql HUK.out HUK.out
    rw [← hqa] at T1
    obtain ⟨qa0, qa1⟩ := qa
    have HUA := am T1.1
    have HT1 := am T1.2
    have HQA := am hqa
    have HR1 := am hr1
    clear T1 hqa
    unfold PS.r1 at hr1
    unfold wide at HT1
    go_upto_region 10 with fail
    simp only [← hr1]
    clear hr1
    go_wp2_with fail
    refine (HT1.out w' (HG.out.below HB.out)).mono ?_
    rintro e w1 ⟨rfl, hb⟩
    replace HX := b_b HX hb
    replace HB := b_s HB hb
    clear hb y40 y41
    have y40 := b_l HX 0 rfl
    have y41 := b_l HX 1 rfl
    have f40 := b_z HX 0
    have f41 := b_z HX 1
    go_upto_region 12 with fail
    obtain ⟨q, qb⟩ := two_set rfl HX.out g4 HB.out (.int .i64 qa0) (.int .u64 qa1)
    clear y40 y41 f40 f41 HX HB
    generalize (w1.setCell ⟨b4, 0, none⟩ (.int .i64 qa0)).setCell ⟨b4, 1, none⟩ (.int .u64 qa1) = w2 at q qb ⊢
    have HX := am q
    have HB := am qb
    clear q qb
    by_cases c1 : b ≤ r1
    ·
     have p1 : decide (b ≤ r1) = true := decide_eq_true c1
     obtain ⟨qb', hqb⟩ : ∃ r, r = F qa0 qa1 0 1 := ⟨_, rfl⟩
     have T2 := HF.out qa0 qa1 0 1 HUA.out ⟨by decide, by decide⟩
     rw [← hqb] at T2
     obtain ⟨qc0, qc1⟩ := qb'
     have HT2 := am T2.2
     have HQB := am hqb
     clear T2 hqb
     unfold wide at HT2
     have HNX2 := am (show PS.iter F b s0 (k + 1) = ⟨PS.h1 ⟨hi, lo, rest, qh, ql⟩, PS.l1 ⟨hi, lo, rest, qh, ql⟩, IntKind.u64.wrap (r1 - b), qc0, qc1⟩ by
      rw [HNX.out, PS.next, ← HR1.out, if_pos c1, show PS.q1 F ⟨hi, lo, rest, qh, ql⟩ = (qa0, qa1) from HQA.out.symm, ← HQB.out])
     go_upto_region 14 with fail
     refine s_t 4 (fun w' => True) trivial (fun hHeld => ?_)
     replace HX := b_d HX
     replace HB := am (below_drew HB.out)
     generalize w2.drew = wd at HX HB hHeld ⊢
     refine two_ (i := 0) (j := 1) (Ni := (some 53)) (Nj := (some 54)) (flg 4 1) (flg 4 2) rfl rfl rfl rfl (by kernel_rfl) (by decide) (by decide) (fun K hK => ?_) (fun K hK => ?_)
     ·
      skip
      have z40 := b_l HX 0 rfl
      have z41 := b_l HX 1 rfl
      refine event_step (v := .agg #[qa0, .int .u64 qa1]) (w1 := wd) (by rfl) (by first | (go_simp; done) | (go_simp; rfl)) ?_
      clear hHeld z40 z41
      refine hK.out _ _ trivial (fun hHeld => ?_)
      clear hK K
      refine n_o 53 ?_
      refine o_n 1 54 4 3 fun K hK => ?_
      refine g_s Tryz.func79 #[.int .i64 1] ?_
      refine (wide_Of.calls 1 0 1 wd rfl).mono ?_
      rintro e wa ⟨rfl, hb⟩
      replace HX := b_b HX hb
      replace HB := b_s HB hb
      clear hb hHeld
      refine ⟨_, rfl, ?_⟩
      refine hK.out _ _ trivial (fun hHeld => ?_)
      clear hK K
      refine n_o 54 ?_
      refine o_n 2 55 4 7 fun K hK => ?_
      refine g_s Tryz.func123 #[.agg #[qa0, .int .u64 qa1], .agg #[(), .int .u64 1]] ?_
      refine (HT2.out wa (HG.out.below HB.out)).mono ?_
      rintro e wb ⟨rfl, hb⟩
      replace HX := b_b HX hb
      replace HB := b_s HB hb
      clear hb hHeld
      refine ⟨_, rfl, ?_⟩
      refine hK.out _ _ trivial (fun hHeld => ?_)
      clear hK K
      refine n_o 55 ?_
      have y40 := b_l HX 0 rfl
      have f40 := b_z HX 0
      have y41 := b_l HX 1 rfl
      have f41 := b_z HX 1
      refine o_0 3 4 15 fun K hK => ?_
      refine s_k ((wb.setCell ⟨b4, 0, none⟩ (.int .i64 qc0)).setCell ⟨b4, 1, none⟩ (.int .u64 qc1)) ?_
      obtain ⟨q, qb⟩ := two_set rfl HX.out g4 HB.out (.int .i64 qc0) (.int .u64 qc1)
      clear hHeld y40 y41 f40 f41 HX HB
      generalize (wb.setCell ⟨b4, 0, none⟩ (.int .i64 qc0)).setCell ⟨b4, 1, none⟩ (.int .u64 qc1) = wc at q qb ⊢
      have HX := am q
      have HB := am qb
      clear q qb
      refine hK.out _ _ trivial (fun hHeld => ?_)
      clear hK K
      refine d_n ?_
      go_wp2_with fail
      go_step3
      refine ⟨rfl, ?_, ?_⟩
      ·
       refine ⟨k + 1, b4, _, ⟨PS.h1 ⟨hi, lo, rest, qh, ql⟩, PS.l1 ⟨hi, lo, rest, qh, ql⟩, IntKind.u64.wrap (r1 - b), qc0, qc1⟩, _, _, _, _, _, _, _, _, _, _, _, _, _, _, _, _, _, _, _, _, _, _, _, _, _, _, _, _, _, _, _, _, _, _, _, _, _, _, _, _, _, _, _, _, _, _, _, _, _, _, rfl, ?_, HNX2.out.symm, hlt, g4, ⟨HX.out⟩, ⟨HB.out⟩⟩
       omega
      show (128 - (k : Int) - 1).toNat < (128 - (k : Int)).toNat
      omega
     skip
     refine g_s Tryz.func79 #[.int .i64 1] ?_
     refine (wide_Of.calls 1 0 1 wd rfl).mono ?_
     rintro e wa ⟨rfl, hb⟩
     replace HX := b_b HX hb
     replace HB := b_s HB hb
     clear hb hHeld
     refine ⟨_, rfl, ?_⟩
     refine hK.out _ _ trivial (fun hHeld => ?_)
     clear hK K
     refine n_o 54 ?_
     refine o_n 0 53 4 3 fun K hK => ?_
     have z40 := b_l HX 0 rfl
     have z41 := b_l HX 1 rfl
     refine event_step (v := .agg #[qa0, .int .u64 qa1]) (w1 := wa) (by rfl) (by first | (go_simp; done) | (go_simp; rfl)) ?_
     clear hHeld z40 z41
     refine hK.out _ _ trivial (fun hHeld => ?_)
     clear hK K
     refine n_o 53 ?_
     refine o_n 2 55 4 7 fun K hK => ?_
     refine g_s Tryz.func123 #[.agg #[qa0, .int .u64 qa1], .agg #[(), .int .u64 1]] ?_
     refine (HT2.out wa (HG.out.below HB.out)).mono ?_
     rintro e wb ⟨rfl, hb⟩
     replace HX := b_b HX hb
     replace HB := b_s HB hb
     clear hb hHeld
     refine ⟨_, rfl, ?_⟩
     refine hK.out _ _ trivial (fun hHeld => ?_)
     clear hK K
     refine n_o 55 ?_
     have y40 := b_l HX 0 rfl
     have f40 := b_z HX 0
     have y41 := b_l HX 1 rfl
     have f41 := b_z HX 1
     refine o_0 3 4 15 fun K hK => ?_
     refine s_k ((wb.setCell ⟨b4, 0, none⟩ (.int .i64 qc0)).setCell ⟨b4, 1, none⟩ (.int .u64 qc1)) ?_
     obtain ⟨q, qb⟩ := two_set rfl HX.out g4 HB.out (.int .i64 qc0) (.int .u64 qc1)
     clear hHeld y40 y41 f40 f41 HX HB
     generalize (wb.setCell ⟨b4, 0, none⟩ (.int .i64 qc0)).setCell ⟨b4, 1, none⟩ (.int .u64 qc1) = wc at q qb ⊢
     have HX := am q
     have HB := am qb
     clear q qb
     refine hK.out _ _ trivial (fun hHeld => ?_)
     clear hK K
     refine d_n ?_
     go_wp2_with fail
     go_step3
     refine ⟨rfl, ?_, ?_⟩
     ·
      refine ⟨k + 1, b4, _, ⟨PS.h1 ⟨hi, lo, rest, qh, ql⟩, PS.l1 ⟨hi, lo, rest, qh, ql⟩, IntKind.u64.wrap (r1 - b), qc0, qc1⟩, _, _, _, _, _, _, _, _, _, _, _, _, _, _, _, _, _, _, _, _, _, _, _, _, _, _, _, _, _, _, _, _, _, _, _, _, _, _, _, _, _, _, _, _, _, _, _, _, _, _, rfl, ?_, HNX2.out.symm, hlt, g4, ⟨HX.out⟩, ⟨HB.out⟩⟩
      omega
     show (128 - (k : Int) - 1).toNat < (128 - (k : Int)).toNat
     omega
    have p1 : decide (b ≤ r1) = false := decide_eq_false c1
    have HNX2 := am (show PS.iter F b s0 (k + 1) = ⟨PS.h1 ⟨hi, lo, rest, qh, ql⟩, PS.l1 ⟨hi, lo, rest, qh, ql⟩, r1, qa0, qa1⟩ by
     rw [HNX.out, PS.next, ← HR1.out, if_neg c1, show PS.q1 F ⟨hi, lo, rest, qh, ql⟩ = (qa0, qa1) from HQA.out.symm])
    go_wp2_with fail
    go_step3
    refine ⟨rfl, ?_, ?_⟩
    ·
     refine ⟨k + 1, b4, _, ⟨PS.h1 ⟨hi, lo, rest, qh, ql⟩, PS.l1 ⟨hi, lo, rest, qh, ql⟩, r1, qa0, qa1⟩, _, _, _, _, _, _, _, _, _, _, _, _, _, _, _, _, _, _, _, _, _, _, _, _, _, _, _, _, _, _, _, _, _, _, _, _, _, _, _, _, _, _, _, _, _, _, _, _, _, _, rfl, ?_, HNX2.out.symm, hlt, g4, ⟨HX.out⟩, ⟨HB.out⟩⟩
     omega
    show (128 - (k : Int) - 1).toNat < (128 - (k : Int)).toNat
    omega
   obtain rfl : k = 128 := by omega
   have y40 := b_l HX 0 rfl
   have y41 := b_l HX 1 rfl
   have f40 := b_z HX 0
   have f41 := b_z HX 1
   go_wp2_with fail
   simp only [Exit.jump]
   obtain ⟨q, qb⟩ := two_set rfl HX.out g4 HB.out (.int .i64 qh) (.int .u64 ql)
   refine bodyPost_ret (results_ct rfl _ _ b4 124 _ (0, 0) _ rfl q Tryz.underlying124 rfl (by kernel_rfl)) rfl ⟨?_, qb⟩
   rw [HSK.out]
   rfl
  go_upto_region 1 with fail
  obtain ⟨x2', x4', hB⟩ := blocks2 w #[h, .int .u64 l] #[(), .int .u64 0] 124 124
  generalize (w.alloc (.cells #[h, .int .u64 l] 124)).alloc (.cells #[(), .int .u64 0] 124) = w1 at x2' x4' hB ⊢
  obtain ⟨b2, h2⟩ := e_x (w.heap.size)
  obtain ⟨b4, h4⟩ := e_x (w.heap.size + 1)
  have g2 : w.heap.size ≤ b2 := by omega
  have g4 : w.heap.size ≤ b4 := by omega
  have n2_4 : b2 ≠ b4 := by omega
  have n4_2 : b4 ≠ b2 := by omega
  rw [← h4, ← h2]
  rw [← h4] at x4'
  rw [← h2] at x2'
  have H2 := am x2'
  have H4 := am x4'
  have HB := am hB
  clear x2' x4' hB h2 h4
  have y20 := b_l H2 0 rfl
  have y21 := b_l H2 1 rfl
  go_region
  replace H2 := b_d H2
  replace H4 := b_d H4
  replace HB := am (below_drew HB.out)
  generalize w1.drew = w2 at H2 H4 HB ⊢
  clear y20 y21
  have y20 := b_l H2 0 rfl
  have y21 := b_l H2 1 rfl
  have n0 := (HG.out.below HB.out).none0
  have n1 := (HG.out.below HB.out).none1
  go_upto_region 3 with fail
  go_wp2_with fail
  refine (HL.out w2 (HG.out.below HB.out)).mono ?_
  rintro e w3 ⟨rfl, hb⟩
  clear y20 y21 n0 n1
  go_upto_region 4 with fail
  replace H2 := b_b H2 hb
  replace H4 := b_b H4 hb
  replace HB := b_s HB hb
  clear hb
  replace H2 := am (blk_alloc H2.out (.cells #[nh, .int .u64 nl] 124))
  replace H4 := am (blk_alloc H4.out (.cells #[nh, .int .u64 nl] 124))
  have H8 := am (blk_new w3 (.cells #[nh, .int .u64 nl] 124))
  have g8 : w.heap.size ≤ w3.heap.size := HB.out.size
  replace HB := am (below_alloc HB.out (.cells #[nh, .int .u64 nl] 124))
  generalize w3.alloc (.cells #[nh, .int .u64 nl] 124) = w4 at H2 H4 H8 HB ⊢
  generalize w3.heap.size = b8 at H8 g8 ⊢
  have y80 := b_l H8 0 rfl
  have y81 := b_l H8 1 rfl
  go_region
  replace H4 := b_d H4
  replace HB := am (below_drew HB.out)
  generalize w4.drew = w5 at H4 HB ⊢
  clear y80 y81 H8 H2
  go_wp2_with fail
  go_step3
  rename_i Kx ax
  refine ax _ _ (pass _ _ ?_)
  exact ⟨0, b4, 128, ⟨IntKind.u64.wrap nh, nl, 0, 0, 0⟩, _, _, _, _, _, _, _, _, _, _, _, _, _, _, _, _, _, _, _, _, _, _, _, _, _, _, _, _, _, _, _, _, _, _, _, _, _, _, _, _, _, _, _, _, _, _, _, _, _, _, rfl, by decide, hs0.symm, by omega, g4, ⟨H4.out⟩, ⟨HB.out⟩⟩
 have d0 : decide (h < 0) = false := decide_eq_false h0
 obtain ⟨s0, hs0⟩ : ∃ s : PS, s = ⟨IntKind.u64.wrap h, l, 0, 0, 0⟩ := ⟨_, rfl⟩
 have HU := am (hU s0 (by rw [hs0]; exact (show U 0 from ⟨by decide, by decide⟩)))
 clear hU hl nu h0
 refine ⟨(PS.iter F b s0 128).qh, (PS.iter F b s0 128).ql, (PS.iter F b s0 128).rest, HU.out 128, fun w hG => ?_⟩
 have HG := am hG
 clear hG
 unfold wide at HL ⊢
 go_enter Tryz.func161, Tryz.ntmps161
 go_wp2
 refine scope_jumps2 0 (fun a' w' => ∃ (k b4 : Nat) (i : Int) (s : PS) (u0 u2 u3 u8 u10 u11 u12 u13 u14 u15 u16 u17 u18 u19 u20 u21 u22 u23 u24 u25 u26 u27 u28 u29 u30 u31 u32 u33 u34 u35 u36 u37 u38 u39 u40 u41 u42 u43 u44 u45 u46 u47 u48 u49 u50 u51 u52 u53 u54 u55 : Value), a' = { tmps := #[u0, .int .u64 b, u2, u3, .pointer (some ⟨b4, 0, none⟩), .int .u64 s.rest, .int .u64 s.hi, .int .u64 s.lo, u8, .int .i64 i, u10, u11, u12, u13, u14, u15, u16, u17, u18, u19, u20, u21, u22, u23, u24, u25, u26, u27, u28, u29, u30, u31, u32, u33, u34, u35, u36, u37, u38, u39, u40, u41, u42, u43, u44, u45, u46, u47, u48, u49, u50, u51, u52, u53, u54, u55], defers := [] } ∧ i = 128 - (k : Int) ∧ s = PS.iter F b s0 k ∧ k ≤ 128 ∧ w.heap.size ≤ b4 ∧ Aside0 (w'.heap[b4]? = some (.cells #[s.qh, .int .u64 s.ql] 124 (0, 0))) ∧ Aside0 (Below w.heap.size w w')) (fun a' _ => (intOf (a'.tmps.getD 9 undef)).toNat) rfl ?_ (fun pass => ?_)
 ·
  rintro a' w' ⟨k, b4, i, sk, u0, u2, u3, u8, u10, u11, u12, u13, u14, u15, u16, u17, u18, u19, u20, u21, u22, u23, u24, u25, u26, u27, u28, u29, u30, u31, u32, u33, u34, u35, u36, u37, u38, u39, u40, u41, u42, u43, u44, u45, u46, u47, u48, u49, u50, u51, u52, u53, u54, u55, rfl, hi, hs0, hk, g4, HX, HB⟩
  subst hi
  replace hs0 := hs0.symm
  have HNX := am (show PS.iter F b s0 (k + 1) = sk.next F b by rw [← hs0]; rfl)
  have HUK := am (show U sk.ql by rw [← hs0]; exact HU.out k)
  have HSK := am hs0
  clear hs0
  obtain ⟨hi, lo, rest, qh, ql⟩ := sk
  replace HX := am (show w'.heap[b4]? = some (.cells #[qh, .int .u64 ql] 124 (0, 0)) from HX.out)
  by_cases hlt : k < 128
  ·
   have q0 : ((128 - (k : Int)) == 0) = false := by simp; omega
   have q0' : decide (128 - (k : Int) = 0) = false := decide_eq_false (by omega)
   have e1 : wrap64 (128 - (k : Int) - 1) = 128 - ((k + 1 : Nat) : Int) := by unfold wrap64; omega
   have y40 := b_l HX 0 rfl
   have y41 := b_l HX 1 rfl
   obtain ⟨r1, hr1⟩ : ∃ r, r = PS.r1 ⟨hi, lo, rest, qh, ql⟩ := ⟨_, rfl⟩
   obtain ⟨qa, hqa⟩ : ∃ r, r = F qh ql qh ql := ⟨_, rfl⟩
   have T1 := HF.out qh ql qh ql HUK.out HUK.out
   rw [← hqa] at T1
   obtain ⟨qa0, qa1⟩ := qa
   have HUA := am T1.1
   have HT1 := am T1.2
   have HQA := am hqa
   have HR1 := am hr1
   clear T1 hqa
   unfold PS.r1 at hr1
   unfold wide at HT1
   go_upto_region 10 with fail
   simp only [← hr1]
   clear hr1
   go_wp2_with fail
   refine (HT1.out w' (HG.out.below HB.out)).mono ?_
   rintro e w1 ⟨rfl, hb⟩
   replace HX := b_b HX hb
   replace HB := b_s HB hb
   clear hb y40 y41
   have y40 := b_l HX 0 rfl
   have y41 := b_l HX 1 rfl
   have f40 := b_z HX 0
   have f41 := b_z HX 1
   go_upto_region 12 with fail
   obtain ⟨q, qb⟩ := two_set rfl HX.out g4 HB.out (.int .i64 qa0) (.int .u64 qa1)
   clear y40 y41 f40 f41 HX HB
   generalize (w1.setCell ⟨b4, 0, none⟩ (.int .i64 qa0)).setCell ⟨b4, 1, none⟩ (.int .u64 qa1) = w2 at q qb ⊢
   have HX := am q
   have HB := am qb
   clear q qb
   by_cases c1 : b ≤ r1
   ·
    have p1 : decide (b ≤ r1) = true := decide_eq_true c1
    obtain ⟨qb', hqb⟩ : ∃ r, r = F qa0 qa1 0 1 := ⟨_, rfl⟩
    have T2 := HF.out qa0 qa1 0 1 HUA.out ⟨by decide, by decide⟩
    rw [← hqb] at T2
    obtain ⟨qc0, qc1⟩ := qb'
    have HT2 := am T2.2
    have HQB := am hqb
    clear T2 hqb
    unfold wide at HT2
    have HNX2 := am (show PS.iter F b s0 (k + 1) = ⟨PS.h1 ⟨hi, lo, rest, qh, ql⟩, PS.l1 ⟨hi, lo, rest, qh, ql⟩, IntKind.u64.wrap (r1 - b), qc0, qc1⟩ by
     rw [HNX.out, PS.next, ← HR1.out, if_pos c1, show PS.q1 F ⟨hi, lo, rest, qh, ql⟩ = (qa0, qa1) from HQA.out.symm, ← HQB.out])
    go_upto_region 14 with fail
    refine s_t 4 (fun w' => True) trivial (fun hHeld => ?_)
    replace HX := b_d HX
    replace HB := am (below_drew HB.out)
    generalize w2.drew = wd at HX HB hHeld ⊢
    refine two_ (i := 0) (j := 1) (Ni := (some 53)) (Nj := (some 54)) (flg 4 1) (flg 4 2) rfl rfl rfl rfl (by kernel_rfl) (by decide) (by decide) (fun K hK => ?_) (fun K hK => ?_)
    ·
     skip
     have z40 := b_l HX 0 rfl
     have z41 := b_l HX 1 rfl
     refine event_step (v := .agg #[qa0, .int .u64 qa1]) (w1 := wd) (by rfl) (by first | (go_simp; done) | (go_simp; rfl)) ?_
     clear hHeld z40 z41
     refine hK.out _ _ trivial (fun hHeld => ?_)
     clear hK K
     refine n_o 53 ?_
     refine o_n 1 54 4 3 fun K hK => ?_
     refine g_s Tryz.func79 #[.int .i64 1] ?_
     refine (wide_Of.calls 1 0 1 wd rfl).mono ?_
     rintro e wa ⟨rfl, hb⟩
     replace HX := b_b HX hb
     replace HB := b_s HB hb
     clear hb hHeld
     refine ⟨_, rfl, ?_⟩
     refine hK.out _ _ trivial (fun hHeld => ?_)
     clear hK K
     refine n_o 54 ?_
     refine o_n 2 55 4 7 fun K hK => ?_
     refine g_s Tryz.func123 #[.agg #[qa0, .int .u64 qa1], .agg #[(), .int .u64 1]] ?_
     refine (HT2.out wa (HG.out.below HB.out)).mono ?_
     rintro e wb ⟨rfl, hb⟩
     replace HX := b_b HX hb
     replace HB := b_s HB hb
     clear hb hHeld
     refine ⟨_, rfl, ?_⟩
     refine hK.out _ _ trivial (fun hHeld => ?_)
     clear hK K
     refine n_o 55 ?_
     have y40 := b_l HX 0 rfl
     have f40 := b_z HX 0
     have y41 := b_l HX 1 rfl
     have f41 := b_z HX 1
     refine o_0 3 4 15 fun K hK => ?_
     refine s_k ((wb.setCell ⟨b4, 0, none⟩ (.int .i64 qc0)).setCell ⟨b4, 1, none⟩ (.int .u64 qc1)) ?_
     obtain ⟨q, qb⟩ := two_set rfl HX.out g4 HB.out (.int .i64 qc0) (.int .u64 qc1)
     clear hHeld y40 y41 f40 f41 HX HB
     generalize (wb.setCell ⟨b4, 0, none⟩ (.int .i64 qc0)).setCell ⟨b4, 1, none⟩ (.int .u64 qc1) = wc at q qb ⊢
     have HX := am q
     have HB := am qb
     clear q qb
     refine hK.out _ _ trivial (fun hHeld => ?_)
     clear hK K
     refine d_n ?_
     go_wp2_with fail
     go_step3
     refine ⟨rfl, ?_, ?_⟩
     ·
      refine ⟨k + 1, b4, _, ⟨PS.h1 ⟨hi, lo, rest, qh, ql⟩, PS.l1 ⟨hi, lo, rest, qh, ql⟩, IntKind.u64.wrap (r1 - b), qc0, qc1⟩, _, _, _, _, _, _, _, _, _, _, _, _, _, _, _, _, _, _, _, _, _, _, _, _, _, _, _, _, _, _, _, _, _, _, _, _, _, _, _, _, _, _, _, _, _, _, _, _, _, _, rfl, ?_, HNX2.out.symm, hlt, g4, ⟨HX.out⟩, ⟨HB.out⟩⟩
      omega
     show (128 - (k : Int) - 1).toNat < (128 - (k : Int)).toNat
     omega
    skip
    refine g_s Tryz.func79 #[.int .i64 1] ?_
    refine (wide_Of.calls 1 0 1 wd rfl).mono ?_
    rintro e wa ⟨rfl, hb⟩
    replace HX := b_b HX hb
    replace HB := b_s HB hb
    clear hb hHeld
    refine ⟨_, rfl, ?_⟩
    refine hK.out _ _ trivial (fun hHeld => ?_)
    clear hK K
    refine n_o 54 ?_
    refine o_n 0 53 4 3 fun K hK => ?_
    have z40 := b_l HX 0 rfl
    have z41 := b_l HX 1 rfl
    refine event_step (v := .agg #[qa0, .int .u64 qa1]) (w1 := wa) (by rfl) (by first | (go_simp; done) | (go_simp; rfl)) ?_
    clear hHeld z40 z41
    refine hK.out _ _ trivial (fun hHeld => ?_)
    clear hK K
    refine n_o 53 ?_
    refine o_n 2 55 4 7 fun K hK => ?_
    refine g_s Tryz.func123 #[.agg #[qa0, .int .u64 qa1], .agg #[(), .int .u64 1]] ?_
    refine (HT2.out wa (HG.out.below HB.out)).mono ?_
    rintro e wb ⟨rfl, hb⟩
    replace HX := b_b HX hb
    replace HB := b_s HB hb
    clear hb hHeld
    refine ⟨_, rfl, ?_⟩
    refine hK.out _ _ trivial (fun hHeld => ?_)
    clear hK K
    refine n_o 55 ?_
    have y40 := b_l HX 0 rfl
    have f40 := b_z HX 0
    have y41 := b_l HX 1 rfl
    have f41 := b_z HX 1
    refine o_0 3 4 15 fun K hK => ?_
    refine s_k ((wb.setCell ⟨b4, 0, none⟩ (.int .i64 qc0)).setCell ⟨b4, 1, none⟩ (.int .u64 qc1)) ?_
    obtain ⟨q, qb⟩ := two_set rfl HX.out g4 HB.out (.int .i64 qc0) (.int .u64 qc1)
    clear hHeld y40 y41 f40 f41 HX HB
    generalize (wb.setCell ⟨b4, 0, none⟩ (.int .i64 qc0)).setCell ⟨b4, 1, none⟩ (.int .u64 qc1) = wc at q qb ⊢
    have HX := am q
    have HB := am qb
    clear q qb
    refine hK.out _ _ trivial (fun hHeld => ?_)
    clear hK K
    refine d_n ?_
    go_wp2_with fail
    go_step3
    refine ⟨rfl, ?_, ?_⟩
    ·
     refine ⟨k + 1, b4, _, ⟨PS.h1 ⟨hi, lo, rest, qh, ql⟩, PS.l1 ⟨hi, lo, rest, qh, ql⟩, IntKind.u64.wrap (r1 - b), qc0, qc1⟩, _, _, _, _, _, _, _, _, _, _, _, _, _, _, _, _, _, _, _, _, _, _, _, _, _, _, _, _, _, _, _, _, _, _, _, _, _, _, _, _, _, _, _, _, _, _, _, _, _, _, rfl, ?_, HNX2.out.symm, hlt, g4, ⟨HX.out⟩, ⟨HB.out⟩⟩
     omega
    show (128 - (k : Int) - 1).toNat < (128 - (k : Int)).toNat
    omega
   have p1 : decide (b ≤ r1) = false := decide_eq_false c1
   have HNX2 := am (show PS.iter F b s0 (k + 1) = ⟨PS.h1 ⟨hi, lo, rest, qh, ql⟩, PS.l1 ⟨hi, lo, rest, qh, ql⟩, r1, qa0, qa1⟩ by
    rw [HNX.out, PS.next, ← HR1.out, if_neg c1, show PS.q1 F ⟨hi, lo, rest, qh, ql⟩ = (qa0, qa1) from HQA.out.symm])
   go_wp2_with fail
   go_step3
   refine ⟨rfl, ?_, ?_⟩
   ·
    refine ⟨k + 1, b4, _, ⟨PS.h1 ⟨hi, lo, rest, qh, ql⟩, PS.l1 ⟨hi, lo, rest, qh, ql⟩, r1, qa0, qa1⟩, _, _, _, _, _, _, _, _, _, _, _, _, _, _, _, _, _, _, _, _, _, _, _, _, _, _, _, _, _, _, _, _, _, _, _, _, _, _, _, _, _, _, _, _, _, _, _, _, _, _, rfl, ?_, HNX2.out.symm, hlt, g4, ⟨HX.out⟩, ⟨HB.out⟩⟩
    omega
   show (128 - (k : Int) - 1).toNat < (128 - (k : Int)).toNat
   omega
  obtain rfl : k = 128 := by omega
  have y40 := b_l HX 0 rfl
  have y41 := b_l HX 1 rfl
  have f40 := b_z HX 0
  have f41 := b_z HX 1
  go_wp2_with fail
  simp only [Exit.jump]
  obtain ⟨q, qb⟩ := two_set rfl HX.out g4 HB.out (.int .i64 qh) (.int .u64 ql)
  refine bodyPost_ret (results_ct rfl _ _ b4 124 _ (0, 0) _ rfl q Tryz.underlying124 rfl (by kernel_rfl)) rfl ⟨?_, qb⟩
  rw [HSK.out]
  rfl
 go_upto_region 1 with fail
 obtain ⟨x2', x4', hB⟩ := blocks2 w #[h, .int .u64 l] #[(), .int .u64 0] 124 124
 generalize (w.alloc (.cells #[h, .int .u64 l] 124)).alloc (.cells #[(), .int .u64 0] 124) = w1 at x2' x4' hB ⊢
 obtain ⟨b2, h2⟩ := e_x (w.heap.size)
 obtain ⟨b4, h4⟩ := e_x (w.heap.size + 1)
 have g2 : w.heap.size ≤ b2 := by omega
 have g4 : w.heap.size ≤ b4 := by omega
 have n2_4 : b2 ≠ b4 := by omega
 have n4_2 : b4 ≠ b2 := by omega
 rw [← h4, ← h2]
 rw [← h4] at x4'
 rw [← h2] at x2'
 have H2 := am x2'
 have H4 := am x4'
 have HB := am hB
 clear x2' x4' hB h2 h4
 have y20 := b_l H2 0 rfl
 have y21 := b_l H2 1 rfl
 go_region
 replace H2 := b_d H2
 replace H4 := b_d H4
 replace HB := am (below_drew HB.out)
 generalize w1.drew = w2 at H2 H4 HB ⊢
 clear y20 y21
 have y20 := b_l H2 0 rfl
 have y21 := b_l H2 1 rfl
 go_wp2_with fail
 go_step3
 rename_i Kx ax
 refine ax _ _ (pass _ _ ?_)
 exact ⟨0, b4, 128, ⟨IntKind.u64.wrap h, l, 0, 0, 0⟩, _, _, _, _, _, _, _, _, _, _, _, _, _, _, _, _, _, _, _, _, _, _, _, _, _, _, _, _, _, _, _, _, _, _, _, _, _, _, _, _, _, _, _, _, _, _, _, _, _, _, rfl, by decide, hs0.symm, by omega, g4, ⟨H4.out⟩, ⟨HB.out⟩⟩
end Go.Proofs.YtpdahkgandaabaaGreatDoor.Ch
