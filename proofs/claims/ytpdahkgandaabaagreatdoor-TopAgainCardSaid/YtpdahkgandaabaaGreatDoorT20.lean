/- A part of the proof of TopAgain, where the package's tables hold what their initialisers lay. -/
import Derived.Lib.SmallJoins
import Derived.Test.YtpdahkgandaabaaGreatDoorT01
import Derived.Test.YtpdahkgandaabaaGreatDoorT02
import Derived.Test.YtpdahkgandaabaaGreatDoorT03
import Derived.Test.YtpdahkgandaabaaGreatDoorT04
import Derived.Test.YtpdahkgandaabaaGreatDoorT05
import Derived.Test.YtpdahkgandaabaaGreatDoorT08
import Derived.Test.YtpdahkgandaabaaGreatDoorT10
import Derived.Test.YtpdahkgandaabaaGreatDoorT15
import Derived.Test.YtpdahkgandaabaaGreatDoorT16
import Derived.Test.YtpdahkgandaabaaGreatDoorT18
import Derived.Test.YtpdahkgandaabaaGreatDoorT19
namespace Go.Proofs.YtpdahkgandaabaaGreatDoor.Ch
open Go.RowKit Go.Proofs.YtpdahkgandaabaaGreatDoorW.PrintWords Go.Proofs.YtpdahkgandaabaaGreatDoorW.PrintLast Go.Proofs.YtpdahkgandaabaaGreatDoorW.PrintMore Go.Proofs.YtpdahkgandaabaaGreatDoor.PTopNames Go.Proofs.YtpdahkgandaabaaGreatDoor.Al
set_option linter.unusedVariables false
set_option linter.unusedSimpArgs false
set_option maxRecDepth 100000 in
set_option maxHeartbeats 4000000 in
theorem take_ex (c : Cf) (s : Gs) (band noise rough count : Int) (known : Bool) (cn : Int) (sh : Bool) : ∃ (tk nr : Bool) (s' : Gs), ∀ (w0 w : World) (g f gr : Nat) (v : Value) (mode since last run : Int) (l : List Int), G w0 → Chan w0 w g f gr s c v mode since last run band noise rough count known l →
  Calls Tryz.prog 27 #[.pointer (some ⟨g, 0, none⟩), cn, .bool sh] w fun e w' => e = .returned (.tuple #[.bool tk, .bool nr]) ∧ Chan w0 w' g f gr s' c v mode since last run band noise rough count known l ∧ Kept w w' (fun k => k = g) := by
 obtain ⟨z, n, nr, e0, hlv⟩ : ∃ z n nr e0, levelR band noise rough count known cn = .tuple #[.int .i64 z, .int .i64 n, .bool nr, .int .i64 e0] := ⟨_, _, _, _, rfl⟩
 have hlev := fun (w0 w : World) (gr : Nat) (hI : IsS93 w0 w gr band noise rough count known) (hT : Tab w) => hlv ▸ level_any w0 w gr band noise rough count known cn hI hT
 obtain ⟨y, sp, e1, hlook⟩ := look_tells s.x0 s.x1 s.x2 s.p0 s.p1 s.p2 s.p3 s.p4 s.p5 z n
 obtain ⟨kp, hpass⟩ := pass_tells y sp c.g
 obtain ⟨k0, k1, k2, e2, hgain⟩ := gof_tells s.p0 s.p1 s.p2 s.p3 s.p4 s.p5 sp c.t0 c.t1 c.t2 sh
 obtain ⟨f0, f1, f2, e3, hstate⟩ := state_tells s.x0 s.x1 s.x2 k0 k1 k2 y
 obtain ⟨d0, d1, d2, d3, d4, d5, e4, hdoubt⟩ := doubt_tells s.p0 s.p1 s.p2 s.p3 s.p4 s.p5 k0 k1 k2 sp
 obtain ⟨k, hk⟩ := kept_ex c f0 f1 f2 d0 d1 d2 d3 d4 d5
 obtain ⟨tk, s', hY, hN⟩ : ∃ (tk : Bool) (s' : Gs), (e0 = 0 → e1 = 0 → kp = true → e2 = 0 → e3 = 0 → e4 = 0 → tk = true ∧ s' = k) ∧ (¬ (e0 = 0 ∧ e1 = 0 ∧ kp = true ∧ e2 = 0 ∧ e3 = 0 ∧ e4 = 0) → tk = false ∧ s' = s) := by
  by_cases h : e0 = 0 ∧ e1 = 0 ∧ kp = true ∧ e2 = 0 ∧ e3 = 0 ∧ e4 = 0
  ·
   exact ⟨true, k, fun a b c d e f => ⟨rfl, rfl⟩, fun h' => absurd h h'⟩
  exact ⟨false, s, fun a b c d e f => absurd ⟨a, b, c, d, e, f⟩ h, fun _ => ⟨rfl, rfl⟩⟩
 refine ⟨tk, nr, s', fun w0 w g f gr v mode since last run l hG h => ?_⟩
 have hw0 := h.hb.size
 have H := am h
 have HK := am (Kept.refl w (fun k => k = g))
 have HLV := am hlev
 have HLO := am hlook
 have HPA := am hpass
 have HGA := am hgain
 have HST := am hstate
 have HDO := am hdoubt
 have HKE := am hk
 have HY := am hY
 have HN := am hN
 have HG := am hG
 clear hlv hlev hlook hpass hgain hstate hdoubt hk hY hN hG h
 unfold vec sym at *
 go_enter Tryz.func27, Tryz.ntmps27
 have yg42 := bcv H.out.hg 42 (.pointer (some ⟨gr, 0, none⟩)) rfl
 go_wp2_with fail
 go_step3
 go_wp2_with fail
 refine (HLV.out w0 w gr H.out.hi (HG.out.below H.out.hb).tab).mono ?_
 rintro e w1 ⟨rfl, hb⟩
 replace H := am (H.out.below hb)
 replace HK := am (HK.out.below hb)
 clear hb yg42
 go_upto_region 3 with fail
 have l11 : w.heap.size ≤ w1.heap.size := HK.out.1
 replace H := am (H.out.alloc (.cells #[(), (), (), (), (), (), (), (), ()] 50))
 replace HK := am (HK.out.alloc (.cells #[(), (), (), (), (), (), (), (), ()] 50))
 have H11 := am (blk_new w1 (.cells #[(), (), (), (), (), (), (), (), ()] 50))
 generalize w1.alloc (.cells #[(), (), (), (), (), (), (), (), ()] 50) = w2 at H HK H11 ⊢
 generalize w1.heap.size = b11 at H11 l11 ⊢
 go_wp2_with fail
 have n11_14 : b11 ≠ w2.heap.size := Nat.ne_of_lt (blk_lt H11.out)
 have l14 : w.heap.size ≤ w2.heap.size := HK.out.1
 replace H := am (H.out.alloc (.cells #[(), (), ()] 26))
 replace HK := am (HK.out.alloc (.cells #[(), (), ()] 26))
 replace H11 := am (blk_alloc H11.out (.cells #[(), (), ()] 26))
 have H14 := am (blk_new w2 (.cells #[(), (), ()] 26))
 generalize w2.alloc (.cells #[(), (), ()] 26) = w3 at H HK H14 H11 ⊢
 generalize w2.heap.size = b14 at H14 l14 n11_14 ⊢
 have n14_11 := Ne.symm n11_14
 go_step3
 go_wp2_with fail
 refine wp_unroll (fun K hK => ?_)
 have HL := am hK
 clear hK
 by_cases h0 : e0 = 0
 ·
  have qa0 : (e0 == 0) = true := by simp [h0]
  have qb0 : decide (e0 = 0) = true := decide_eq_true h0
  go_upto_region 10 with fail
  refine s_t 20 (fun w' => w'.heap[g]? = some (.cells (chanV s c f gr v mode since) 56 (0, 0))) H.out.hg (fun hHeld => ?_)
  replace H := am (H.out.drewN 1)
  replace HK := am (HK.out.drew)
  replace H11 := b_d H11
  replace H14 := b_d H14
  change Aside0 (Chan w0 w3.drew _ _ _ _ _ _ _ _ _ _ _ _ _ _ _ _) at H
  generalize w3.drew = u0 at H HK H11 H14 hHeld ⊢
  refine p_u 0 35 20 1 ?_
  refine p_u 1 36 20 3 ?_
  refine p_u 2 37 20 7 ?_
  refine p_u 3 38 20 15 ?_
  refine t_a 4 39 20 31 hHeld ?_ (hv := by rintro w' s0; have x0 := bcv s0 0 (.int .i64 s.x0) rfl; have x1 := bcv s0 1 (.int .i64 s.x1) rfl; have x2 := bcv s0 2 (.int .i64 s.x2) rfl; go_simp; with_reducible rfl)
  refine p_u 5 40 20 63 ?_
  refine p_u 6 41 20 127 ?_
  refine p_u 7 42 20 255 ?_
  refine p_u 8 43 20 511 ?_
  refine t_a 9 44 20 1023 hHeld ?_ (hv := by rintro w' s0; have x0 := bcv s0 3 (.int .i64 s.p0) rfl; have x1 := bcv s0 4 (.int .i64 s.p1) rfl; have x2 := bcv s0 5 (.int .i64 s.p2) rfl; have x3 := bcv s0 6 (.int .i64 s.p3) rfl; have x4 := bcv s0 7 (.int .i64 s.p4) rfl; have x5 := bcv s0 8 (.int .i64 s.p5) rfl; go_simp; with_reducible rfl)
  refine p_u 10 45 20 2047 ?_
  refine p_u 11 46 20 4095 ?_
  refine o_n 12 47 20 8191 fun K hK => ?_
  refine g_s Tryz.func72 #[.agg #[s.x0, s.x1, s.x2], .agg #[s.p0, s.p1, s.p2, s.p3, s.p4, s.p5], .int .i64 z, .int .i64 n] ?_
  refine (HLO.out u0 (HG.out.below H.out.hb)).mono ?_
  rintro e u1 ⟨rfl, hb⟩
  replace H := am (H.out.below hb)
  replace HK := am (HK.out.below hb)
  replace H11 := b_b H11 hb
  replace H14 := b_b H14 hb
  clear hb hHeld
  refine ⟨_, rfl, ?_⟩
  refine hK.out _ _ H.out.hg (fun hHeld => ?_)
  clear hK K
  refine n_o 47 ?_
  refine p_u 13 34 20 16383 ?_
  refine p_u 14 48 20 32767 ?_
  refine p_u 15 49 20 65535 ?_
  refine p_u 16 50 20 131071 ?_
  refine p_u 17 12 20 262143 ?_
  refine p_u 18 13 20 524287 ?_
  refine p_u 19 10 20 1048575 ?_
  refine d_n ?_
  go_wp2_with fail
  refine HL.out _ _ ?_
  by_cases h1 : e1 = 0
  ·
   have qa1 : (e1 == 0) = true := by simp [h1]
   have qb1 : decide (e1 = 0) = true := decide_eq_true h1
   have yg29 := bcv H.out.hg 29 (.int .i64 c.g) rfl
   go_wp2_with fail
   refine (HPA.out u1 (HG.out.below H.out.hb)).mono ?_
   rintro e u2 ⟨rfl, hb⟩
   replace H := am (H.out.below hb)
   replace HK := am (HK.out.below hb)
   replace H11 := b_b H11 hb
   replace H14 := b_b H14 hb
   clear hb yg29
   cases hp : kp with
   | false =>
    obtain ⟨rfl, rfl⟩ := HN.out (fun h => by rw [hp] at h; cases h.2.2.1)
    go_wp2_with fail
    rw [Exit.noGoto_ret]
    go_ret2
    exact ⟨rfl, H.out, HK.out⟩
   | true =>
    go_upto_region 13 with fail
    refine s_t 18 (fun w' => w'.heap[g]? = some (.cells (chanV s c f gr v mode since) 56 (0, 0))) H.out.hg (fun hHeld => ?_)
    replace H := am (H.out.drewN 1)
    replace HK := am (HK.out.drew)
    replace H11 := b_d H11
    replace H14 := b_d H14
    change Aside0 (Chan w0 u2.drew _ _ _ _ _ _ _ _ _ _ _ _ _ _ _ _) at H
    generalize u2.drew = u3 at H HK H11 H14 hHeld ⊢
    refine p_u 0 63 18 1 ?_
    refine p_u 1 64 18 3 ?_
    refine p_u 2 65 18 7 ?_
    refine p_u 3 66 18 15 ?_
    refine t_a 4 67 18 31 hHeld ?_ (hv := by rintro w' s0; have x0 := bcv s0 3 (.int .i64 s.p0) rfl; have x1 := bcv s0 4 (.int .i64 s.p1) rfl; have x2 := bcv s0 5 (.int .i64 s.p2) rfl; have x3 := bcv s0 6 (.int .i64 s.p3) rfl; have x4 := bcv s0 7 (.int .i64 s.p4) rfl; have x5 := bcv s0 8 (.int .i64 s.p5) rfl; go_simp; with_reducible rfl)
    refine p_u 5 68 18 63 ?_
    refine p_u 6 69 18 127 ?_
    refine p_u 7 70 18 255 ?_
    refine p_u 8 71 18 511 ?_
    refine p_u 9 72 18 1023 ?_
    refine p_u 10 73 18 2047 ?_
    refine t_a 11 74 18 4095 hHeld ?_ (hv := by rintro w' s0; have x0 := bcv s0 30 (.int .i64 c.t0) rfl; have x1 := bcv s0 31 (.int .i64 c.t1) rfl; have x2 := bcv s0 32 (.int .i64 c.t2) rfl; go_simp; with_reducible rfl)
    refine o_n 12 75 18 8191 fun K hK => ?_
    refine g_s Tryz.func74 #[.agg #[s.p0, s.p1, s.p2, s.p3, s.p4, s.p5], .int .i64 sp, .bool sh, .agg #[c.t0, c.t1, c.t2]] ?_
    refine (HGA.out u3 (HG.out.below H.out.hb)).mono ?_
    rintro e u4 ⟨rfl, hb⟩
    replace H := am (H.out.below hb)
    replace HK := am (HK.out.below hb)
    replace H11 := b_b H11 hb
    replace H14 := b_b H14 hb
    clear hb hHeld
    refine ⟨_, rfl, ?_⟩
    refine hK.out _ _ H.out.hg (fun hHeld => ?_)
    clear hK K
    refine n_o 75 ?_
    refine p_u 13 62 18 16383 ?_
    refine p_u 14 76 18 32767 ?_
    refine p_u 15 77 18 65535 ?_
    have y140 := b_v H14 0 (.int .i64 0) rfl
    have f140 := b_z H14 0
    have y141 := b_v H14 1 (.int .i64 0) rfl
    have f141 := b_z H14 1
    have y142 := b_v H14 2 (.int .i64 0) rfl
    have f142 := b_z H14 2
    refine o_0 16 18 131071 fun K hK => ?_
    refine s_k (((u4.setCell ⟨b14, 0, none⟩ (.int .i64 k0)).setCell ⟨b14, 1, none⟩ (.int .i64 k1)).setCell ⟨b14, 2, none⟩ (.int .i64 k2)) ?_
    clear hHeld
    clear y140 y141 y142 f140 f141 f142
    have qs0 := blk_set H14.out 0 (.int .i64 k0)
    have qs1 := blk_set qs0 1 (.int .i64 k1)
    have qs2 := blk_set qs1 2 (.int .i64 k2)
    have qa := qs2.trans (show _ = some (Obj.cells #[k0, k1, k2] 26 (0, 0)) from rfl)
    have qk := (((Kept.refl u4 (fun k => k = b14)).setCell (p := ⟨b14, 0, none⟩) (.inl rfl) (.int .i64 k0)).setCell (p := ⟨b14, 1, none⟩) (.inl rfl) (.int .i64 k1)).setCell (p := ⟨b14, 2, none⟩) (.inl rfl) (.int .i64 k2)
    have qb := ((H.out.hb.setCell (p := ⟨b14, 0, none⟩) (Nat.le_trans hw0 l14) (.int .i64 k0)).setCell (p := ⟨b14, 1, none⟩) (Nat.le_trans hw0 l14) (.int .i64 k1)).setCell (p := ⟨b14, 2, none⟩) (Nat.le_trans hw0 l14) (.int .i64 k2)
    have qh := H.out.but H14.out (by decide) qk qb
    have qo11 := blk_kept H11.out qk (show b11 ≠ b14 from n11_14)
    have qK := HK.out.then_ qk (fun k hk => .inr (by rw [hk]; exact l14))
    clear H HK H14 H11 qs0 qs1 qs2 qk qb
    generalize ((u4.setCell ⟨b14, 0, none⟩ (.int .i64 k0)).setCell ⟨b14, 1, none⟩ (.int .i64 k1)).setCell ⟨b14, 2, none⟩ (.int .i64 k2) = u5 at qa qh qK qo11 ⊢
    have H := am qh
    have HK := am qK
    have H14 := am qa
    have H11 := am qo11
    clear qa qh qK qo11
    refine hK.out _ _ H.out.hg (fun hHeld => ?_)
    clear hK K
    refine p_u 17 10 18 262143 ?_
    refine d_n ?_
    go_wp2_with fail
    refine HL.out _ _ ?_
    by_cases h2 : e2 = 0
    ·
     have qa2 : (e2 == 0) = true := by simp [h2]
     have qb2 : decide (e2 = 0) = true := decide_eq_true h2
     go_upto_region 15 with fail
     refine s_t 14 (fun w' => w'.heap[g]? = some (.cells (chanV s c f gr v mode since) 56 (0, 0)) ∧ w'.heap[b14]? = some (.cells #[k0, k1, k2] 26 (0, 0))) ⟨H.out.hg, H14.out⟩ (fun hHeld => ?_)
     replace H := am (H.out.drewN 1)
     replace HK := am (HK.out.drew)
     replace H11 := b_d H11
     replace H14 := b_d H14
     change Aside0 (Chan w0 u5.drew _ _ _ _ _ _ _ _ _ _ _ _ _ _ _ _) at H
     generalize u5.drew = u6 at H HK H11 H14 hHeld ⊢
     refine p_u 0 81 14 1 ?_
     refine p_u 1 82 14 3 ?_
     refine p_u 2 83 14 7 ?_
     refine p_u 3 84 14 15 ?_
     refine t_a 4 85 14 31 hHeld ?_ (hv := by rintro w' ⟨s0, s1⟩; have x0 := bcv s0 0 (.int .i64 s.x0) rfl; have x1 := bcv s0 1 (.int .i64 s.x1) rfl; have x2 := bcv s0 2 (.int .i64 s.x2) rfl; go_simp; with_reducible rfl)
     refine t_a 5 86 14 63 hHeld ?_ (hv := by rintro w' ⟨s0, s1⟩; have x0 := bcv s1 0 (.int .i64 k0) rfl; have x1 := bcv s1 1 (.int .i64 k1) rfl; have x2 := bcv s1 2 (.int .i64 k2) rfl; go_simp; with_reducible rfl)
     refine p_u 6 87 14 127 ?_
     refine o_n 7 88 14 255 fun K hK => ?_
     refine g_s Tryz.func75 #[.agg #[s.x0, s.x1, s.x2], .agg #[k0, k1, k2], .int .i64 y] ?_
     refine (HST.out u6 (HG.out.below H.out.hb)).mono ?_
     rintro e u7 ⟨rfl, hb⟩
     replace H := am (H.out.below hb)
     replace HK := am (HK.out.below hb)
     replace H11 := b_b H11 hb
     replace H14 := b_b H14 hb
     clear hb hHeld
     refine ⟨_, rfl, ?_⟩
     refine hK.out _ _ ⟨H.out.hg, H14.out⟩ (fun hHeld => ?_)
     clear hK K
     refine n_o 88 ?_
     refine p_u 8 80 14 511 ?_
     refine p_u 9 89 14 1023 ?_
     refine p_u 10 90 14 2047 ?_
     refine p_u 11 91 14 4095 ?_
     have y110 := b_v H11 0 (.int .i64 0) rfl
     have f110 := b_z H11 0
     have y111 := b_v H11 1 (.int .i64 0) rfl
     have f111 := b_z H11 1
     have y112 := b_v H11 2 (.int .i64 0) rfl
     have f112 := b_z H11 2
     refine o_0 12 14 8191 fun K hK => ?_
     refine s_k (((u7.setCell ⟨b11, 0, none⟩ (.int .i64 f0)).setCell ⟨b11, 1, none⟩ (.int .i64 f1)).setCell ⟨b11, 2, none⟩ (.int .i64 f2)) ?_
     clear hHeld
     clear y110 y111 y112 f110 f111 f112
     have qs0 := blk_set H11.out 0 (.int .i64 f0)
     have qs1 := blk_set qs0 1 (.int .i64 f1)
     have qs2 := blk_set qs1 2 (.int .i64 f2)
     have qa := qs2.trans (show _ = some (Obj.cells #[f0, f1, f2, (), (), (), (), (), ()] 50 (0, 0)) from rfl)
     have qk := (((Kept.refl u7 (fun k => k = b11)).setCell (p := ⟨b11, 0, none⟩) (.inl rfl) (.int .i64 f0)).setCell (p := ⟨b11, 1, none⟩) (.inl rfl) (.int .i64 f1)).setCell (p := ⟨b11, 2, none⟩) (.inl rfl) (.int .i64 f2)
     have qb := ((H.out.hb.setCell (p := ⟨b11, 0, none⟩) (Nat.le_trans hw0 l11) (.int .i64 f0)).setCell (p := ⟨b11, 1, none⟩) (Nat.le_trans hw0 l11) (.int .i64 f1)).setCell (p := ⟨b11, 2, none⟩) (Nat.le_trans hw0 l11) (.int .i64 f2)
     have qh := H.out.but H11.out (by decide) qk qb
     have qo14 := blk_kept H14.out qk (show b14 ≠ b11 from n14_11)
     have qK := HK.out.then_ qk (fun k hk => .inr (by rw [hk]; exact l11))
     clear H HK H11 H14 qs0 qs1 qs2 qk qb
     generalize ((u7.setCell ⟨b11, 0, none⟩ (.int .i64 f0)).setCell ⟨b11, 1, none⟩ (.int .i64 f1)).setCell ⟨b11, 2, none⟩ (.int .i64 f2) = u8 at qa qh qK qo14 ⊢
     have H := am qh
     have HK := am qK
     have H11 := am qa
     have H14 := am qo14
     clear qa qh qK qo14
     refine hK.out _ _ ⟨H.out.hg, H14.out⟩ (fun hHeld => ?_)
     clear hK K
     refine p_u 13 10 14 16383 ?_
     refine d_n ?_
     go_wp2_with fail
     refine HL.out _ _ ?_
     by_cases h3 : e3 = 0
     ·
      have qa3 : (e3 == 0) = true := by simp [h3]
      have qb3 : decide (e3 = 0) = true := decide_eq_true h3
      go_upto_region 17 with fail
      refine s_t 14 (fun w' => w'.heap[g]? = some (.cells (chanV s c f gr v mode since) 56 (0, 0)) ∧ w'.heap[b14]? = some (.cells #[k0, k1, k2] 26 (0, 0))) ⟨H.out.hg, H14.out⟩ (fun hHeld => ?_)
      replace H := am (H.out.drewN 1)
      replace HK := am (HK.out.drew)
      replace H11 := b_d H11
      replace H14 := b_d H14
      change Aside0 (Chan w0 u8.drew _ _ _ _ _ _ _ _ _ _ _ _ _ _ _ _) at H
      generalize u8.drew = u9 at H HK H11 H14 hHeld ⊢
      refine p_u 0 95 14 1 ?_
      refine p_u 1 96 14 3 ?_
      refine p_u 2 97 14 7 ?_
      refine p_u 3 98 14 15 ?_
      refine t_a 4 99 14 31 hHeld ?_ (hv := by rintro w' ⟨s0, s1⟩; have x0 := bcv s0 3 (.int .i64 s.p0) rfl; have x1 := bcv s0 4 (.int .i64 s.p1) rfl; have x2 := bcv s0 5 (.int .i64 s.p2) rfl; have x3 := bcv s0 6 (.int .i64 s.p3) rfl; have x4 := bcv s0 7 (.int .i64 s.p4) rfl; have x5 := bcv s0 8 (.int .i64 s.p5) rfl; go_simp; with_reducible rfl)
      refine t_a 5 100 14 63 hHeld ?_ (hv := by rintro w' ⟨s0, s1⟩; have x0 := bcv s1 0 (.int .i64 k0) rfl; have x1 := bcv s1 1 (.int .i64 k1) rfl; have x2 := bcv s1 2 (.int .i64 k2) rfl; go_simp; with_reducible rfl)
      refine p_u 6 101 14 127 ?_
      refine o_n 7 102 14 255 fun K hK => ?_
      refine g_s Tryz.func76 #[.agg #[s.p0, s.p1, s.p2, s.p3, s.p4, s.p5], .agg #[k0, k1, k2], .int .i64 sp] ?_
      refine (HDO.out u9 (HG.out.below H.out.hb)).mono ?_
      rintro e u10 ⟨rfl, hb⟩
      replace H := am (H.out.below hb)
      replace HK := am (HK.out.below hb)
      replace H11 := b_b H11 hb
      replace H14 := b_b H14 hb
      clear hb hHeld
      refine ⟨_, rfl, ?_⟩
      refine hK.out _ _ ⟨H.out.hg, H14.out⟩ (fun hHeld => ?_)
      clear hK K
      refine n_o 102 ?_
      refine p_u 8 94 14 511 ?_
      refine p_u 9 103 14 1023 ?_
      refine p_u 10 104 14 2047 ?_
      refine p_u 11 105 14 4095 ?_
      have y113 := b_v H11 3 (.int .i64 0) rfl
      have f113 := b_z H11 3
      have y114 := b_v H11 4 (.int .i64 0) rfl
      have f114 := b_z H11 4
      have y115 := b_v H11 5 (.int .i64 0) rfl
      have f115 := b_z H11 5
      have y116 := b_v H11 6 (.int .i64 0) rfl
      have f116 := b_z H11 6
      have y117 := b_v H11 7 (.int .i64 0) rfl
      have f117 := b_z H11 7
      have y118 := b_v H11 8 (.int .i64 0) rfl
      have f118 := b_z H11 8
      refine o_0 12 14 8191 fun K hK => ?_
      refine s_k ((((((u10.setCell ⟨b11, 3, none⟩ (.int .i64 d0)).setCell ⟨b11, 4, none⟩ (.int .i64 d1)).setCell ⟨b11, 5, none⟩ (.int .i64 d2)).setCell ⟨b11, 6, none⟩ (.int .i64 d3)).setCell ⟨b11, 7, none⟩ (.int .i64 d4)).setCell ⟨b11, 8, none⟩ (.int .i64 d5)) ?_
      clear hHeld
      clear y113 y114 y115 y116 y117 y118 f113 f114 f115 f116 f117 f118
      have qs0 := blk_set H11.out 3 (.int .i64 d0)
      have qs1 := blk_set qs0 4 (.int .i64 d1)
      have qs2 := blk_set qs1 5 (.int .i64 d2)
      have qs3 := blk_set qs2 6 (.int .i64 d3)
      have qs4 := blk_set qs3 7 (.int .i64 d4)
      have qs5 := blk_set qs4 8 (.int .i64 d5)
      have qa := qs5.trans (show _ = some (Obj.cells #[f0, f1, f2, d0, d1, d2, d3, d4, d5] 50 (0, 0)) from rfl)
      have qk := ((((((Kept.refl u10 (fun k => k = b11)).setCell (p := ⟨b11, 3, none⟩) (.inl rfl) (.int .i64 d0)).setCell (p := ⟨b11, 4, none⟩) (.inl rfl) (.int .i64 d1)).setCell (p := ⟨b11, 5, none⟩) (.inl rfl) (.int .i64 d2)).setCell (p := ⟨b11, 6, none⟩) (.inl rfl) (.int .i64 d3)).setCell (p := ⟨b11, 7, none⟩) (.inl rfl) (.int .i64 d4)).setCell (p := ⟨b11, 8, none⟩) (.inl rfl) (.int .i64 d5)
      have qb := (((((H.out.hb.setCell (p := ⟨b11, 3, none⟩) (Nat.le_trans hw0 l11) (.int .i64 d0)).setCell (p := ⟨b11, 4, none⟩) (Nat.le_trans hw0 l11) (.int .i64 d1)).setCell (p := ⟨b11, 5, none⟩) (Nat.le_trans hw0 l11) (.int .i64 d2)).setCell (p := ⟨b11, 6, none⟩) (Nat.le_trans hw0 l11) (.int .i64 d3)).setCell (p := ⟨b11, 7, none⟩) (Nat.le_trans hw0 l11) (.int .i64 d4)).setCell (p := ⟨b11, 8, none⟩) (Nat.le_trans hw0 l11) (.int .i64 d5)
      have qh := H.out.but H11.out (by decide) qk qb
      have qo14 := blk_kept H14.out qk (show b14 ≠ b11 from n14_11)
      have qK := HK.out.then_ qk (fun k hk => .inr (by rw [hk]; exact l11))
      clear H HK H11 H14 qs0 qs1 qs2 qs3 qs4 qs5 qk qb
      generalize (((((u10.setCell ⟨b11, 3, none⟩ (.int .i64 d0)).setCell ⟨b11, 4, none⟩ (.int .i64 d1)).setCell ⟨b11, 5, none⟩ (.int .i64 d2)).setCell ⟨b11, 6, none⟩ (.int .i64 d3)).setCell ⟨b11, 7, none⟩ (.int .i64 d4)).setCell ⟨b11, 8, none⟩ (.int .i64 d5) = u11 at qa qh qK qo14 ⊢
      have H := am qh
      have HK := am qK
      have H11 := am qa
      have H14 := am qo14
      clear qa qh qK qo14
      refine hK.out _ _ ⟨H.out.hg, H14.out⟩ (fun hHeld => ?_)
      clear hK K
      refine p_u 13 10 14 16383 ?_
      refine d_n ?_
      go_wp2_with fail
      refine HL.out _ _ ?_
      by_cases h4 : e4 = 0
      ·
       have qa4 : (e4 == 0) = true := by simp [h4]
       have qb4 : decide (e4 = 0) = true := decide_eq_true h4
       have y110 := b_v H11 0 (.int .i64 f0) rfl
       have y111 := b_v H11 1 (.int .i64 f1) rfl
       have y112 := b_v H11 2 (.int .i64 f2) rfl
       have y113 := b_v H11 3 (.int .i64 d0) rfl
       have y114 := b_v H11 4 (.int .i64 d1) rfl
       have y115 := b_v H11 5 (.int .i64 d2) rfl
       have y116 := b_v H11 6 (.int .i64 d3) rfl
       have y117 := b_v H11 7 (.int .i64 d4) rfl
       have y118 := b_v H11 8 (.int .i64 d5) rfl
       go_wp2_with fail
       refine (HKE.out u11 g f gr s v mode since (HG.out.below H.out.hb) H.out.hg).mono ?_
       rintro e u12 ⟨rfl, hb⟩
       replace H := am (H.out.below hb)
       replace HK := am (HK.out.below hb)
       clear hb H11 H14
       clear y110 y111 y112 y113 y114 y115 y116 y117 y118
       unfold gsV
       have yg0 := bcv H.out.hg 0 (.int .i64 s.x0) rfl
       have fg0 := bfz H.out.hg 0
       have yg1 := bcv H.out.hg 1 (.int .i64 s.x1) rfl
       have fg1 := bfz H.out.hg 1
       have yg2 := bcv H.out.hg 2 (.int .i64 s.x2) rfl
       have fg2 := bfz H.out.hg 2
       have yg3 := bcv H.out.hg 3 (.int .i64 s.p0) rfl
       have fg3 := bfz H.out.hg 3
       have yg4 := bcv H.out.hg 4 (.int .i64 s.p1) rfl
       have fg4 := bfz H.out.hg 4
       have yg5 := bcv H.out.hg 5 (.int .i64 s.p2) rfl
       have fg5 := bfz H.out.hg 5
       have yg6 := bcv H.out.hg 6 (.int .i64 s.p3) rfl
       have fg6 := bfz H.out.hg 6
       have yg7 := bcv H.out.hg 7 (.int .i64 s.p4) rfl
       have fg7 := bfz H.out.hg 7
       have yg8 := bcv H.out.hg 8 (.int .i64 s.p5) rfl
       have fg8 := bfz H.out.hg 8
       go_wp2_with fail
       have q := H.out.guess k
       have qk := HK.out.then_ ((((((((((Kept.refl u12 (fun k => k = g)).setCell (p := ⟨g, 0, none⟩) (.inl rfl) (.int .i64 k.x0)).setCell (p := ⟨g, 1, none⟩) (.inl rfl) (.int .i64 k.x1)).setCell (p := ⟨g, 2, none⟩) (.inl rfl) (.int .i64 k.x2)).setCell (p := ⟨g, 3, none⟩) (.inl rfl) (.int .i64 k.p0)).setCell (p := ⟨g, 4, none⟩) (.inl rfl) (.int .i64 k.p1)).setCell (p := ⟨g, 5, none⟩) (.inl rfl) (.int .i64 k.p2)).setCell (p := ⟨g, 6, none⟩) (.inl rfl) (.int .i64 k.p3)).setCell (p := ⟨g, 7, none⟩) (.inl rfl) (.int .i64 k.p4)).setCell (p := ⟨g, 8, none⟩) (.inl rfl) (.int .i64 k.p5)) (fun k hk => .inl hk)
       obtain ⟨rfl, rfl⟩ := HY.out h0 h1 hp h2 h3 h4
       rw [Exit.noGoto_ret]
       go_ret2
       exact ⟨rfl, q, qk⟩
      obtain ⟨rfl, rfl⟩ := HN.out (fun h => h4 h.2.2.2.2.2)
      have qa4 : (e4 == 0) = false := by simp [h4]
      have qb4 : decide (e4 = 0) = false := decide_eq_false h4
      go_wp2_with fail
      go_ret2
      exact ⟨rfl, H.out, HK.out⟩
     obtain ⟨rfl, rfl⟩ := HN.out (fun h => h3 h.2.2.2.2.1)
     have qa3 : (e3 == 0) = false := by simp [h3]
     have qb3 : decide (e3 = 0) = false := decide_eq_false h3
     go_wp2_with fail
     go_ret2
     exact ⟨rfl, H.out, HK.out⟩
    obtain ⟨rfl, rfl⟩ := HN.out (fun h => h2 h.2.2.2.1)
    have qa2 : (e2 == 0) = false := by simp [h2]
    have qb2 : decide (e2 = 0) = false := decide_eq_false h2
    go_wp2_with fail
    go_ret2
    exact ⟨rfl, H.out, HK.out⟩
  obtain ⟨rfl, rfl⟩ := HN.out (fun h => h1 h.2.1)
  have qa1 : (e1 == 0) = false := by simp [h1]
  have qb1 : decide (e1 = 0) = false := decide_eq_false h1
  go_wp2_with fail
  go_ret2
  exact ⟨rfl, H.out, HK.out⟩
 obtain ⟨rfl, rfl⟩ := HN.out (fun h => h0 h.1)
 have qa0 : (e0 == 0) = false := by simp [h0]
 have qb0 : decide (e0 = 0) = false := decide_eq_false h0
 go_wp2_with fail
 go_ret2
 exact ⟨rfl, H.out, HK.out⟩
end Go.Proofs.YtpdahkgandaabaaGreatDoor.Ch
namespace Go.Proofs.YtpdahkgandaabaaGreatDoor.PTopNames
open Go.RowKit Go.Proofs.YtpdahkgandaabaaGreatDoorW.PrintWords Go.Proofs.YtpdahkgandaabaaGreatDoorW.PrintLast Go.Proofs.YtpdahkgandaabaaGreatDoorW.PrintMore
attribute [local go_sem] max2_int min2_int max_two min_two max_three min_three max_four min_four
set_option linter.unusedVariables false
set_option linter.unusedSimpArgs false
mutual
def mode_Clock_On.j0 : Nat → Int → Int → Int → Bool → Int → Int → Option (Int × Int)
 | 0, _, _, _, _, _, _ => none
 | k + 1, x1, x2, x3, x9, x162000, x162001 => if x9 = true then (mode_Clock_On.j1 k x1 x2 x3 x9 (x1 == 3) x162000 x162001) else (mode_Clock_On.j1 k x1 x2 x3 x9 false x162000 x162001)
def mode_Clock_On.j1 : Nat → Int → Int → Int → Bool → Bool → Int → Int → Option (Int × Int)
 | 0, _, _, _, _, _, _, _ => none
 | k + 1, x1, x2, x3, x9, x16, x162000, x162001 => if x16 = true then (some (3, 0)) else (if x9 = true then (mode_Clock_On.j2 k x1 x2 x3 (x1 == 0) x162000 x162001) else (mode_Clock_On.j2 k x1 x2 x3 false x162000 x162001))
def mode_Clock_On.j2 : Nat → Int → Int → Int → Bool → Int → Int → Option (Int × Int)
 | 0, _, _, _, _, _, _ => none
 | k + 1, x1, x2, x3, x23, x162000, x162001 => if x23 = true then (mode_Clock_On.j3 k x1 x2 x3 x23 x162000 x162001) else ((mode_Clock_Valid.f x162000 x162001).bind fun t165 => (if t165 = true then (mode_Clock_On.j3 k x1 x2 x3 (x1 == 1) x162000 x162001) else (mode_Clock_On.j3 k x1 x2 x3 false x162000 x162001)))
def mode_Clock_On.j3 : Nat → Int → Int → Int → Bool → Int → Int → Option (Int × Int)
 | 0, _, _, _, _, _, _ => none
 | k + 1, x1, x2, x3, x23, x162000, x162001 => if x23 = true then (some (1, 0)) else ((mode_Clock_Valid.f x162000 x162001).bind fun t166 => (if t166 = true then (if x1 = 2 then ((mode_Clock_missed.f x162000 x162001 x2 x3).bind fun bt167 => (some (bt167.1, bt167.2))) else (some (x162000, x162001))) else (some (x162000, x162001))))
end
def mode_Clock_On.f (k : Nat) (a0_0 : Int) (a0_1 : Int) (a1 : Int) (a2 : Int) (a3 : Int) : Option (Int × Int) := (mode_Clock_Valid.f a0_0 a0_1).bind fun t163 => (if t163 = true then (mode_Clock_On.j0 k a1 a2 a3 true a0_0 a0_1) else ((mode_Clock_Seeks.f a0_0 a0_1).bind fun t164 => (mode_Clock_On.j0 k a1 a2 a3 t164 a0_0 a0_1)))
end Go.Proofs.YtpdahkgandaabaaGreatDoor.PTopNames
namespace Go.Proofs.YtpdahkgandaabaaGreatDoor.Ch
open Go.RowKit Go.Proofs.YtpdahkgandaabaaGreatDoorW.PrintWords Go.Proofs.YtpdahkgandaabaaGreatDoorW.PrintLast Go.Proofs.YtpdahkgandaabaaGreatDoorW.PrintMore Go.Proofs.YtpdahkgandaabaaGreatDoor.PTopNames
set_option linter.unusedVariables false
set_option linter.unusedSimpArgs false
set_option maxRecDepth 100000 in
set_option maxHeartbeats 4000000 in
theorem half_zero (w : World) : Calls Tryz.prog 78 #[.agg #[(), .int .u64 0], .int .i64 24] w fun e w' => e = .returned (.tuple #[.agg #[(), .int .u64 0], .int .i64 0]) ∧ Below w.heap.size w w' := by
 go_enter Tryz.func78, Tryz.ntmps78
 go_upto_region 1 with fail
 obtain ⟨x2, x3, hB⟩ := blocks2 w #[(), .int .u64 0] #[(), .int .u64 0] 124 124
 generalize (w.alloc (.cells #[(), .int .u64 0] 124)).alloc (.cells #[(), .int .u64 0] 124) = w1 at x2 x3 hB ⊢
 obtain ⟨b2, h2⟩ := e_x (w.heap.size)
 obtain ⟨b4, h4⟩ := e_x (w.heap.size + 1)
 have g2 : w.heap.size ≤ b2 := by omega
 have g4 : w.heap.size ≤ b4 := by omega
 have ne : b2 ≠ b4 := by omega
 rw [← h4, ← h2]
 rw [← h4] at x3
 rw [← h2] at x2
 have HX := am x2
 have HY := am x3
 have HB := am hB
 clear x2 x3 hB h2 h4
 go_wp2_with fail
 go_loopw [6, 7, 16] (fun v6 v7 v16 wr => ∃ k : Nat, k ≤ 24 ∧ v6 = .int .u64 0 ∧ v7 = .int .u64 0 ∧ v16 = .int .i64 k ∧ Aside0 (wr.heap[b2]? = some (.cells #[(), .int .u64 0] 124 (0, 0))) ∧ Aside0 (wr.heap[b4]? = some (.cells #[(), .int .u64 0] 124 (0, 0))) ∧ Aside0 (Below w.heap.size w wr)) (fun _ _ v16 _ => 25 - (intOf v16).toNat)
 case atStart => exact ⟨0, by omega, rfl, rfl, rfl, HX, HY, HB⟩
 case round =>
  clear HX HY HB
  obtain ⟨k, hk, rfl, rfl, rfl, HX, HY, HB⟩ := hrel
  have y0 := b_v HX 0 (.int .i64 0) rfl
  have y1 := b_v HX 1 (.int .u64 0) rfl
  have f0 := b_z HX 0
  have f1 := b_z HX 1
  by_cases hlt : k < 24
  ·
   have q0 : decide ((k : Int) < 24) = true := decide_eq_true (by omega)
   go_wp2_with fail
   refine (wide_down.calls 0 0 0 0 0 wr (by decide)).mono ?_
   rintro e w2 ⟨rfl, hb⟩
   replace HX := b_b HX hb
   replace HY := b_b HY hb
   replace HB := b_s HB hb
   clear hb y0 y1 f0 f1
   have y0 := b_v HX 0 (.int .i64 0) rfl
   have y1 := b_v HX 1 (.int .u64 0) rfl
   have f0 := b_z HX 0
   have f1 := b_z HX 1
   go_wp2_with fail
   have q := blk_set (blk_set HX.out 0 (.int .i64 0)) 1 (.int .u64 0)
   have q2 := blk_far (blk_far HY.out (p := ⟨b2, 0, none⟩) (Ne.symm ne) (.int .i64 0)) (p := ⟨b2, 1, none⟩) (Ne.symm ne) (.int .u64 0)
   have q3 := (HB.out.setCell (p := ⟨b2, 0, none⟩) g2 (.int .i64 0)).setCell (p := ⟨b2, 1, none⟩) g2 (.int .u64 0)
   go_roundw
   case rel => exact ⟨k + 1, hlt, rfl, rfl, rfl, ⟨q⟩, ⟨q2⟩, ⟨q3⟩⟩
   case measure => simp [intOf]; omega
  have q0 : decide ((k : Int) < 24) = false := decide_eq_false (by omega)
  have z0 := b_v HY 0 (.int .i64 0) rfl
  have z1 := b_v HY 1 (.int .u64 0) rfl
  have e0 := b_z HY 0
  have e1 := b_z HY 1
  go_wp2_with fail
  have q := blk_set (blk_set HY.out 0 (.int .i64 0)) 1 (.int .u64 0)
  have q3 := (HB.out.setCell (p := ⟨b4, 0, none⟩) g4 (.int .i64 0)).setCell (p := ⟨b4, 1, none⟩) g4 (.int .u64 0)
  generalize (wr.setCell ⟨b4, 0, none⟩ (.int .i64 0)).setCell ⟨b4, 1, none⟩ (.int .u64 0) = wz at q q3 ⊢
  have r0 := bcv q 0 (.int .i64 0) rfl
  have r1 := bcv q 1 (.int .u64 0) rfl
  refine ⟨rfl, .tuple #[.agg #[(), .int .u64 0], .int .i64 0], ?_, rfl, q3⟩
  simp [results, Tryz.results78, go_sem, r0, r1]
set_option maxRecDepth 100000 in
set_option maxHeartbeats 4000000 in
theorem out_zero (w : World) : Calls Tryz.prog 30 #[()] w fun e w' => e = .returned (.int .i64 0) ∧ Below w.heap.size w w' := by
 go_enter Tryz.func30, Tryz.ntmps30
 go_wp2_with fail
 refine (wide_Of.calls 0 0 0 w (by decide)).mono ?_
 rintro e w1 ⟨rfl, hb⟩
 have HB := am hb
 clear hb
 go_wp2_with fail
 refine (half_zero w1).mono ?_
 rintro e w2 ⟨rfl, hb⟩
 replace HB := b_s HB hb
 clear hb
 go_wp2_with fail
 refine (wide_Int.calls 0 0 0 0 _ (by kernel_rfl)).mono ?_
 rintro e w3 ⟨rfl, hb⟩
 replace HB := am (below_step (below_alloc HB.out _) hb)
 clear hb
 go_wp2_with fail
 go_ret
 exact ⟨rfl, HB.out⟩
end Go.Proofs.YtpdahkgandaabaaGreatDoor.Ch
namespace Go.Proofs.YtpdahkgandaabaaGreatDoor.Ch
open Go.RowKit Go.Proofs.YtpdahkgandaabaaGreatDoorW.PrintWords Go.Proofs.YtpdahkgandaabaaGreatDoorW.PrintLast Go.Proofs.YtpdahkgandaabaaGreatDoorW.PrintMore Go.Proofs.YtpdahkgandaabaaGreatDoor.PTopNames Go.Proofs.YtpdahkgandaabaaGreatDoor.Al
namespace Mo
def allG (l : List Int) : Bool := l.all good
theorem w64 {x : Int} (h0 : -9223372036854775808 ≤ x) (h1 : x ≤ 9223372036854775807) : wrap64 x = x := by
 unfold wrap64
 omega
theorem rd_mid (pre t : List Int) (x : Int) : rd (pre ++ x :: t) (pre.length : Int) = x := by
 unfold rd
 simp
theorem good_ok {x : Int} (h : good x = true) : 90528 ≤ x ∧ x ≤ 430515 := by
 simpa [good] using h
theorem atmos_good (x : Int) : atmos_Good.f x = some (good x) := by
 unfold atmos_Good.f good
 by_cases h1 : 90528 ≤ x
 ·
  rw [if_pos (by omega), decide_eq_true h1, Bool.true_and]
 rw [if_neg (by omega), decide_eq_false h1, Bool.false_and]
theorem sum_bounds (l : List Int) (h : allG l = true) : 90528 * (l.length : Int) ≤ l.sum ∧ l.sum ≤ 430515 * (l.length : Int) := by
 induction l with
 | nil => simp
 | cons x t ih =>
  simp only [allG, List.all_cons, Bool.and_eq_true] at h
  have hx := good_ok h.1
  have ht := ih h.2
  simp only [List.sum_cons, List.length_cons]
  omega
theorem of_loop (x0 : List Int) (hx0 : (x0.length : Int) ≠ 0) (hl : x0.length ≤ 1000000) : ∀ (rest pre : List Int) (acc : Int) (k : Nat), x0 = pre ++ rest → rest.length < k → 0 ≤ acc → acc ≤ 430515 * (pre.length : Int) →
  mean_Of.l0 k x0 acc x0 (x0.length : Int) (pre.length : Int) = some (if allG rest then (Int.tdiv (acc + rest.sum) (x0.length : Int), 0) else (0, 2)) := by
 intro rest
 induction rest with
 | nil =>
  intro pre acc k hx hk h0 h1
  obtain ⟨k, rfl⟩ : ∃ m, k = m + 1 := ⟨k - 1, by omega⟩
  have hlen : x0.length = pre.length := by rw [hx]; simp
  simp only [mean_Of.l0]
  rw [if_neg (by omega), if_neg hx0]
  have hq : wrap64 (Int.tdiv acc (x0.length : Int)) = Int.tdiv acc (x0.length : Int) := by
   have hd : 0 ≤ Int.tdiv acc (x0.length : Int) := Int.tdiv_nonneg h0 (by omega)
   have hd2 : Int.tdiv acc (x0.length : Int) ≤ acc := by
    rw [Int.tdiv_eq_ediv_of_nonneg h0]
    exact Int.ediv_le_self _ h0
   exact w64 (by omega) (by omega)
  rw [hq]
  simp [allG]
 | cons x t ih =>
  intro pre acc k hx hk h0 h1
  obtain ⟨k, rfl⟩ : ∃ m, k = m + 1 := ⟨k - 1, by omega⟩
  have hlen : x0.length = pre.length + (t.length + 1) := by rw [hx]; simp
  have hrd : rd x0 (pre.length : Int) = x := by rw [hx]; exact rd_mid _ _ _
  simp only [mean_Of.l0]
  rw [if_pos (by omega), if_pos (by omega), if_pos (by omega), hrd, atmos_good]
  simp only [Option.bind_some]
  by_cases hg : good x = true
  ·
   have hb := good_ok hg
   rw [if_pos hg, w64 (by omega) (by omega), w64 (by omega) (by omega)]
   have hi := ih (pre ++ [x]) (acc + x) k (by rw [hx]; simp) (by simp only [List.length_cons] at hk; omega) (by omega) (by simp only [List.length_append, List.length_cons, List.length_nil]; omega)
   simp only [List.length_append, List.length_cons, List.length_nil, Nat.zero_add, Int.natCast_add, Int.cast_ofNat_Int] at hi
   rw [hi]
   simp only [allG, List.all_cons, hg, Bool.true_and, List.sum_cons, Int.add_assoc]
  rw [if_neg hg]
  simp [allG, hg]
theorem mean_f (l : List Int) (hl : l.length ≤ 1000000) (k : Nat) (hk : l.length < k) :
  mean_Of.f k l = some (if l = [] then (0, 4) else if allG l then (l.sum / (l.length : Int), 0) else (0, 2)) := by
 unfold mean_Of.f
 cases l with
 | nil => simp
 | cons x t =>
  rw [if_neg (by simp only [List.length_cons]; omega), if_neg (by simp)]
  have h := of_loop (x :: t) (by simp only [List.length_cons]; omega) hl (x :: t) [] 0 k rfl hk (by omega) (by simp)
  simp only [List.length_nil, Int.cast_ofNat_Int, Int.zero_add] at h
  refine h.trans ?_
  by_cases hg : allG (x :: t) = true
  ·
   rw [if_pos hg, if_pos hg, Int.tdiv_eq_ediv_of_nonneg]
   have := sum_bounds _ hg
   omega
  rw [if_neg hg, if_neg hg]
end Mo
theorem mean_ex (l : List Int) (h : l.length = 16) : ∃ mn em, mean_Of.f 20 l = some (mn, em) := by
 have h := Mo.mean_f l (by omega) 20 (by omega)
 exact ⟨_, _, h.trans (congrArg some (Prod.ext rfl rfl))⟩
end Go.Proofs.YtpdahkgandaabaaGreatDoor.Ch
namespace Go.Proofs.YtpdahkgandaabaaGreatDoor.Ch
open Go.RowKit Go.Proofs.YtpdahkgandaabaaGreatDoorW.PrintWords Go.Proofs.YtpdahkgandaabaaGreatDoorW.PrintLast Go.Proofs.YtpdahkgandaabaaGreatDoorW.PrintMore Go.Proofs.YtpdahkgandaabaaGreatDoor.PTopNames Go.Proofs.YtpdahkgandaabaaGreatDoor.Al
set_option linter.unusedVariables false
set_option linter.unusedSimpArgs false
set_option maxRecDepth 100000 in
set_option maxHeartbeats 4000000 in
theorem out_tells (x : Int) : ∃ r, Tells 30 #[x] (.int .i64 r) := by
 obtain ⟨oh, ol, uo, ho⟩ := of_tells x
 obtain ⟨hh, hl, hu, hhalf⟩ := half_tells oh ol 24 uo (by decide) (by decide)
 obtain ⟨r, e, hi⟩ := int_tells hh hl
 have HO := am ho
 have HH := am hhalf
 have HI := am hi
 clear ho hhalf hi
 unfold Ch.wide Ch.two at *
 refine ⟨r, fun w hG => ?_⟩
 have HG := am hG
 clear hG
 go_enter Tryz.func30, Tryz.ntmps30
 go_wp2_with fail
 refine (HO.out w HG.out).mono ?_
 rintro e w1 ⟨rfl, hb⟩
 have HB := am hb
 clear hb
 go_wp2_with fail
 refine (HH.out w1 (HG.out.below HB.out)).mono ?_
 rintro e w2 ⟨rfl, hb⟩
 replace HB := b_s HB hb
 clear hb
 go_upto_region 2 with fail
 have H3 := am (blk_new w2 (.cells #[hh, .int .u64 hl] 124))
 replace HB := am (below_alloc HB.out (.cells #[hh, .int .u64 hl] 124))
 generalize w2.alloc (.cells #[hh, .int .u64 hl] 124) = w3 at H3 HB ⊢
 generalize w2.heap.size = b at H3 ⊢
 have y0 := b_v H3 0 (.int .i64 hh) rfl
 have y1 := b_v H3 1 (.int .u64 hl) rfl
 go_wp2_with fail
 refine (HI.out w3 (HG.out.below HB.out)).mono ?_
 rintro e w4 ⟨rfl, hb⟩
 replace HB := b_s HB hb
 clear hb y0 y1
 go_wp2_with fail
 go_ret
 exact ⟨rfl, HB.out⟩
def seeksB (m : Int) : Bool := decide (m = 0) || (m == 3)
def validB (m : Int) : Bool := decide (m = 1) || (m == 2)
theorem seeks_f (m si : Int) : mode_Clock_Seeks.f m si = some (seeksB m) := by
 unfold mode_Clock_Seeks.f seeksB
 by_cases h : m = 0 <;> simp [h]
theorem valid_f (m si : Int) : mode_Clock_Valid.f m si = some (validB m) := by
 unfold mode_Clock_Valid.f validB
 by_cases h : m = 1 <;> simp [h]
theorem missed_ex (m si co ou : Int) : ∃ m2 s2, mode_Clock_missed.f m si co ou = some (m2, s2) ∧ (m2 = 1 ∨ m2 = 2 ∨ m2 = 3) := by
 unfold mode_Clock_missed.f
 split
 ·
  exact ⟨_, _, rfl, by simp⟩
 split
 ·
  exact ⟨_, _, rfl, by simp⟩
 exact ⟨_, _, rfl, by simp⟩
theorem on_ex (m si ev co ou : Int) : ∃ m2 s2, mode_Clock_On.f 5 m si ev co ou = some (m2, s2) ∧ (m = 0 ∨ m = 1 ∨ m = 2 ∨ m = 3 → m2 = 0 ∨ m2 = 1 ∨ m2 = 2 ∨ m2 = 3) := by
 obtain ⟨a, b, hab, hm⟩ := missed_ex m si co ou
 simp only [mode_Clock_On.f, mode_Clock_On.j0, mode_Clock_On.j1, mode_Clock_On.j2, mode_Clock_On.j3, valid_f, seeks_f, hab, Option.bind_some]
 generalize validB m = v
 generalize seeksB m = k
 cases v <;> cases k <;> simp only [if_true, if_false, Bool.false_eq_true] <;> (repeat' split) <;> first | exact ⟨_, _, rfl, by simp⟩ | exact ⟨_, _, rfl, fun h => h⟩ | exact ⟨_, _, rfl, fun _ => by omega⟩
theorem on_miss {m si co ou : Int} (h : m = 0 ∨ m = 3) : mode_Clock_On.f 5 m si 2 co ou = some (m, si) := by
 rcases h with rfl | rfl <;> rfl
theorem on_enter {m si co ou : Int} (h : m = 0 ∨ m = 3) : mode_Clock_On.f 5 m si 0 co ou = some (1, 0) := by
 rcases h with rfl | rfl <;> rfl
theorem on_fall {m si co ou : Int} (h : m = 0 ∨ m = 1 ∨ m = 2 ∨ m = 3) : mode_Clock_On.f 5 m si 3 co ou = some (3, 0) := by
 rcases h with rfl | rfl | rfl | rfl <;> rfl
theorem first_all (c : Cf) : ∀ n k, firstOf c n k = 0 → ∀ j, k ≤ j → j < k + n → ruleB c j = true
 | 0, k, _, j, h1, h2 => by omega
 | n + 1, k, h, j, h1, h2 => by
  unfold firstOf at h
  by_cases hr : ruleB c k = true
  ·
   rw [if_pos hr] at h
   rcases Nat.eq_or_lt_of_le h1 with e | hlt
   ·
    rw [← e]; exact hr
   exact first_all c n (k + 1) h j hlt (by omega)
  rw [if_neg hr] at h
  omega
theorem rule_kept {c : Cf} (h : checkR c = 0) (j : Nat) (hj : j < 14) : ruleB c j = true := first_all c 14 0 h j (Nat.zero_le _) (by omega)
theorem clip_ok {c : Cf} (h : checkR c = 0) : 1 ≤ c.clip ∧ c.clip ≤ 131072 ∧ -c.clip < c.rest ∧ c.rest < c.clip := by
 have h10 := rule_kept h 10 (by decide)
 simp only [ruleB, within, Bool.and_eq_true, decide_eq_true_eq] at h10
 have hw : wrap64 (-c.clip) = -c.clip := by unfold wrap64; omega
 rw [hw] at h10
 omega
theorem hold_ok {c : Cf} (h : checkR c = 0) : 0 ≤ c.hold ∧ c.hold ≤ 1000 := by
 have h11 := rule_kept h 11 (by decide)
 simpa only [ruleB, within, Bool.and_eq_true, decide_eq_true_eq] using h11
theorem brings_f (a p : Int) (has sh : Bool) : baro_Brings.f a has p sh = some (if has && good p then p else 0, has && good p) := by
 unfold baro_Brings.f baro_kind.f
 cases has with
 | false => rfl
 | true =>
  rw [if_pos rfl, Mo.atmos_good]
  cases hg : good p <;> rfl
abbrev T4 := Int × Bool × Int × Bool
def cellsT (t : T4) : List Value := [.int .i64 t.1, .bool t.2.1, .int .i64 t.2.2.1, .bool t.2.2.2]
theorem at_tick {w : World} {A : Option Addr} {n : Nat} {ts : List T4} (h : ReadsRow (fun t c => c = cellsT t) 4 w A n ts) (i : Nat) (hi : i < n) : ∃ ad t, A = some ad ∧ ts[i]? = some t ∧
  w.cell? (ad.add (i * 4)) = some (.int .i64 t.1) ∧ w.cell? ⟨(ad.add (i * 4)).block, (ad.add (i * 4)).off + 1, none⟩ = some (.bool t.2.1) ∧ w.cell? ⟨(ad.add (i * 4)).block, (ad.add (i * 4)).off + 2, none⟩ = some (.int .i64 t.2.2.1) ∧ w.cell? ⟨(ad.add (i * 4)).block, (ad.add (i * 4)).off + 3, none⟩ = some (.bool t.2.2.2) := by
 obtain ⟨h1, h2, h3⟩ := h
 obtain ⟨ad, ha, hat⟩ := h3 (by omega)
 have hlt : i < ts.length := by omega
 obtain ⟨cs, hcl, rfl, hc⟩ := hat i ts[i] (List.getElem?_eq_getElem hlt)
 refine ⟨ad, ts[i], ha, List.getElem?_eq_getElem hlt, ?_, ?_, ?_, ?_⟩
 ·
  exact hc 0 _ rfl
 ·
  rw [← add_field _ _ 1 (by omega)]; exact hc 1 _ rfl
 ·
  rw [← add_field _ _ 2 (by omega)]; exact hc 2 _ rfl
 rw [← add_field _ _ 3 (by omega)]; exact hc 3 _ rfl
section
variable {w0 W W' : World} {g f gr : Nat} {s : Gs} {c : Cf} {v : Value} {mode since last run band noise rough count : Int} {known : Bool} {l : List Int}
theorem Chan.rebase {w1 : World} (h : Chan w1 W g f gr s c v mode since last run band noise rough count known l) (hb : Below w0.heap.size w0 w1) : Chan w0 W g f gr s c v mode since last run band noise rough count known l :=
 ⟨h.hg, h.hf, ⟨h.hi.1, Nat.le_trans hb.size h.hi.2⟩, Kd.R_lower h.hr hb.size, Nat.le_trans hb.size h.g0, Nat.le_trans hb.size h.f0, below_step hb h.hb⟩
theorem Chan.own_lt (h : Chan w0 W g f gr s c v mode since last run band noise rough count known l) : ∀ k, v.ownBlock = some k → k < W.heap.size := fun k hk => ((Kd.R_bound h.hr).1 k hk).2.2.1
end
structure Apart (g f gr : Nat) (v : Value) (g2 f2 gr2 : Nat) (v2 : Value) : Prop where
 hg : g ≠ g2
 hf : f ≠ f2
 hr : gr ≠ gr2
 hv : ∀ k, v.ownBlock = some k → v2.ownBlock ≠ some k
theorem Apart.symm {g f gr g2 f2 gr2 : Nat} {v v2 : Value} (h : Apart g f gr v g2 f2 gr2 v2) : Apart g2 f2 gr2 v2 g f gr v := ⟨h.hg.symm, h.hf.symm, h.hr.symm, fun k h1 h2 => h.hv k h2 h1⟩
set_option maxRecDepth 100000 in
set_option maxHeartbeats 4000000 in
theorem valid_c (m si : Int) (w : World) : Calls Tryz.prog 29 #[.agg #[m, si]] w fun e w' => e = .returned (.bool (validB m)) ∧ Below w.heap.size w w' := by
 unfold validB
 have hx := blk_new w (.cells #[m, si] 54)
 have HB := am (below_alloc (Below.refl w.heap.size w) (.cells #[m, si] 54))
 go_enter Tryz.func29, Tryz.ntmps29
 go_upto_region 1 with fail
 generalize w.alloc (.cells #[m, si] 54) = w1 at hx HB ⊢
 generalize w.heap.size = b at hx ⊢
 have y0 := bcv hx 0 (.int .i64 m) rfl
 clear hx
 by_cases h1 : m = 1
 ·
  subst h1
  go_wp2_with fail
  go_ret
  exact ⟨rfl, HB.out⟩
 have q1 : (m == 1) = false := by simp [h1]
 have q2 : decide (m = 1) = false := decide_eq_false h1
 go_wp2_with fail
 go_ret
 exact ⟨by simp [h1], HB.out⟩
set_option maxRecDepth 100000 in
set_option maxHeartbeats 4000000 in
theorem seeks_c (m si : Int) (w : World) : Calls Tryz.prog 24 #[.agg #[m, si]] w fun e w' => e = .returned (.bool (seeksB m)) ∧ Below w.heap.size w w' := by
 unfold seeksB
 have hx := blk_new w (.cells #[m, si] 54)
 have HB := am (below_alloc (Below.refl w.heap.size w) (.cells #[m, si] 54))
 go_enter Tryz.func24, Tryz.ntmps24
 go_upto_region 1 with fail
 generalize w.alloc (.cells #[m, si] 54) = w1 at hx HB ⊢
 generalize w.heap.size = b at hx ⊢
 have y0 := bcv hx 0 (.int .i64 m) rfl
 clear hx
 by_cases h1 : m = 0
 ·
  subst h1
  go_wp2_with fail
  go_ret
  exact ⟨rfl, HB.out⟩
 have q1 : (m == 0) = false := by simp [h1]
 have q2 : decide (m = 0) = false := decide_eq_false h1
 go_wp2_with fail
 go_ret
 exact ⟨by simp [h1], HB.out⟩
theorem two54 {w0 w : World} {b : Nat} {C : Array Value} (hC : C.size = 2) (hX : w.heap[b]? = some (.cells C 54 (0, 0))) (g : w0.heap.size ≤ b) (hB : Below w0.heap.size w0 w) (x y : Value) :
  ((w.setCell ⟨b, 0, none⟩ x).setCell ⟨b, 1, none⟩ y).heap[b]? = some (.cells #[x, y] 54 (0, 0)) ∧ Below w0.heap.size w0 ((w.setCell ⟨b, 0, none⟩ x).setCell ⟨b, 1, none⟩ y) := by
 obtain ⟨c0, c1, rfl⟩ : ∃ c0 c1, C = #[c0, c1] := Go.Joins.array2 hC
 exact ⟨blk_set (blk_set hX 0 x) 1 y, (hB.setCell (p := ⟨b, 0, none⟩) g x).setCell (p := ⟨b, 1, none⟩) g y⟩
set_option maxRecDepth 100000 in
set_option maxHeartbeats 4000000 in
theorem missed_c (m si co ou n : Int) (hn : wrap64 (si + 1) = n) (w : World) : Calls Tryz.prog 77 #[.agg #[m, si], .int .i64 co, .int .i64 ou] w fun e w' => e = .returned (.agg #[.int .i64 (if ou < n then 3 else if co ≤ n then 2 else 1), .int .i64 (if ou < n then 0 else n)]) ∧ Below w.heap.size w w' := by
 obtain ⟨r, hr⟩ : ∃ r : Int, r = (if ou < n then 3 else if co ≤ n then 2 else 1) := ⟨_, rfl⟩
 obtain ⟨u, hu⟩ : ∃ u : Int, u = (if ou < n then 0 else n) := ⟨_, rfl⟩
 rw [← hr, ← hu]
 have HR := am hr
 have HU := am hu
 have HN := am hn
 clear hr hu hn
 obtain ⟨x3, x6, hB⟩ := blocks2 w #[m, si] #[(), ()] 54 54
 go_enter Tryz.func77, Tryz.ntmps77
 go_upto_region 1 with fail
 generalize (w.alloc (.cells #[m, si] 54)).alloc (.cells #[(), ()] 54) = w1 at x3 x6 hB ⊢
 obtain ⟨b3, h3⟩ := e_x (w.heap.size)
 obtain ⟨b6, h6⟩ := e_x (w.heap.size + 1)
 have g3 : w.heap.size ≤ b3 := by omega
 have g6 : w.heap.size ≤ b6 := by omega
 have n36 : b3 ≠ b6 := by omega
 have n63 : b6 ≠ b3 := by omega
 rw [← h6, ← h3]
 rw [← h6] at x6
 rw [← h3] at x3
 clear h3 h6
 have y1 := bcv x3 1 (.int .i64 si) rfl
 have f1 := bfz x3 1
 go_upto_region 2 with fail
 rw [HN.out]
 have q3 := (blk_set x3 1 (.int .i64 n)).trans (show _ = some (Obj.cells #[m, n] 54 (0, 0)) from rfl)
 have q6 := blk_far x6 (p := ⟨b3, 1, none⟩) n63 (.int .i64 n)
 have qB := hB.setCell (p := ⟨b3, 1, none⟩) g3 (.int .i64 n)
 clear x3 x6 hB y1 f1
 generalize w1.setCell ⟨b3, 1, none⟩ (.int .i64 n) = w2 at q3 q6 qB ⊢
 have H3 := am q3
 have H6 := am q6
 have HB := am qB
 clear q3 q6 qB
 have y0 := b_v H3 0 (.int .i64 m) rfl
 have f0 := b_z H3 0
 have y1 := b_v H3 1 (.int .i64 n) rfl
 have z0 := b_v H6 0 (.int .i64 0) rfl
 have e0 := b_z H6 0
 have z1 := b_v H6 1 (.int .i64 0) rfl
 have e1 := b_z H6 1
 by_cases h1 : ou < n
 ·
  have p1 : decide (ou < n) = true := decide_eq_true h1
  go_wp2_with fail
  obtain ⟨q, qb⟩ := two54 rfl H6.out g6 HB.out (.int .i64 3) (.int .i64 0)
  exact bodyPost_ret (results_cell_row rfl _ _ b6 54 _ (0, 0) _ rfl q Tryz.underlying54 rfl (by kernel_rfl)) rfl ⟨by rw [HR.out, HU.out]; simp only [if_pos (show ou < n by omega)], qb⟩
 have p1 : decide (ou < n) = false := decide_eq_false h1
 by_cases h2 : co ≤ n
 ·
  have p2 : decide (co ≤ n) = true := decide_eq_true h2
  go_upto_region 8 with fail
  clear y0 f0 y1
  have q3 := (blk_set H3.out 0 (.int .i64 2)).trans (show _ = some (Obj.cells #[.int .i64 2, n] 54 (0, 0)) from rfl)
  have q6 := blk_far H6.out (p := ⟨b3, 0, none⟩) n63 (.int .i64 2)
  have qB := HB.out.setCell (p := ⟨b3, 0, none⟩) g3 (.int .i64 2)
  clear z0 z1 e0 e1
  generalize w2.setCell ⟨b3, 0, none⟩ (.int .i64 2) = w3 at q3 q6 qB ⊢
  have y0 := bcv q3 0 (.int .i64 2) rfl
  have y1 := bcv q3 1 (.int .i64 n) rfl
  have z0 := bcv q6 0 (.int .i64 0) rfl
  have e0 := bfz q6 0
  have z1 := bcv q6 1 (.int .i64 0) rfl
  have e1 := bfz q6 1
  go_wp2_with fail
  obtain ⟨q, qb⟩ := two54 rfl q6 g6 qB (.int .i64 2) (.int .i64 n)
  exact bodyPost_ret (results_cell_row rfl _ _ b6 54 _ (0, 0) _ rfl q Tryz.underlying54 rfl (by kernel_rfl)) rfl ⟨by rw [HR.out, HU.out]; simp only [if_neg (show ¬ ou < n by omega), if_pos (show co ≤ n by omega)], qb⟩
 have p2 : decide (co ≤ n) = false := decide_eq_false h2
 go_upto_region 8 with fail
 clear y0 f0 y1
 have q3 := (blk_set H3.out 0 (.int .i64 1)).trans (show _ = some (Obj.cells #[.int .i64 1, n] 54 (0, 0)) from rfl)
 have q6 := blk_far H6.out (p := ⟨b3, 0, none⟩) n63 (.int .i64 1)
 have qB := HB.out.setCell (p := ⟨b3, 0, none⟩) g3 (.int .i64 1)
 clear z0 z1 e0 e1
 generalize w2.setCell ⟨b3, 0, none⟩ (.int .i64 1) = w3 at q3 q6 qB ⊢
 have y0 := bcv q3 0 (.int .i64 1) rfl
 have y1 := bcv q3 1 (.int .i64 n) rfl
 have z0 := bcv q6 0 (.int .i64 0) rfl
 have e0 := bfz q6 0
 have z1 := bcv q6 1 (.int .i64 0) rfl
 have e1 := bfz q6 1
 go_wp2_with fail
 obtain ⟨q, qb⟩ := two54 rfl q6 g6 qB (.int .i64 1) (.int .i64 n)
 exact bodyPost_ret (results_cell_row rfl _ _ b6 54 _ (0, 0) _ rfl q Tryz.underlying54 rfl (by kernel_rfl)) rfl ⟨by rw [HR.out, HU.out]; simp only [if_neg (show ¬ ou < n by omega), if_neg (show ¬ co ≤ n by omega)], qb⟩
set_option maxRecDepth 100000 in
set_option maxHeartbeats 4000000 in
theorem on_c (m si ev co ou m2 s2 : Int) (w : World) (h : mode_Clock_On.f 5 m si ev co ou = some (m2, s2)) : Calls Tryz.prog 28 #[.agg #[m, si], .int .i64 ev, .int .i64 co, .int .i64 ou] w fun e w' => e = .returned (.agg #[m2, s2]) ∧ Below w.heap.size w w' := by
 have hms := fun w => missed_c m si co ou _ rfl w
 have hmf : mode_Clock_missed.f m si co ou = some ((if ou < wrap64 (si + 1) then 3 else if co ≤ wrap64 (si + 1) then 2 else 1), (if ou < wrap64 (si + 1) then 0 else wrap64 (si + 1))) := by
  unfold mode_Clock_missed.f
  split
  ·
   rfl
  split <;> rfl
 generalize (if ou < wrap64 (si + 1) then (3 : Int) else if co ≤ wrap64 (si + 1) then 2 else 1) = r at hms hmf
 generalize (if ou < wrap64 (si + 1) then 0 else wrap64 (si + 1)) = u at hms hmf
 have hva := fun w => valid_c m si w
 have hse := fun w => seeks_c m si w
 simp only [mode_Clock_On.f, mode_Clock_On.j0, mode_Clock_On.j1, mode_Clock_On.j2, mode_Clock_On.j3, valid_f, seeks_f, hmf, Option.bind_some] at h
 generalize validB m = v at hva h
 generalize seeksB m = k at hse h
 have HV := am hva
 have HS := am hse
 have HM := am hms
 clear hva hse hms hmf
 have hev : (ev = 3 ∨ ev = 0 ∨ ev = 1 ∨ ev = 2) ∨ (ev ≠ 3 ∧ ev ≠ 0 ∧ ev ≠ 1 ∧ ev ≠ 2) := by omega
 obtain ⟨x4, x8, hB⟩ := blocks2 w #[m, si] #[(), ()] 54 54
 go_enter Tryz.func28, Tryz.ntmps28
 go_upto_region 1 with fail
 generalize (w.alloc (.cells #[m, si] 54)).alloc (.cells #[(), ()] 54) = w1 at x4 x8 hB ⊢
 obtain ⟨b4, h4⟩ := e_x (w.heap.size)
 obtain ⟨b8, h8⟩ := e_x (w.heap.size + 1)
 have g4 : w.heap.size ≤ b4 := by omega
 have g8 : w.heap.size ≤ b8 := by omega
 rw [← h8, ← h4]
 rw [← h8] at x8
 rw [← h4] at x4
 clear h4 h8
 have H4 := am x4
 have H8 := am x8
 have HB := am hB
 clear x4 x8 hB
 rcases hev with (rfl | rfl | rfl | rfl) | ⟨e3, e0, e1, e2⟩
 rotate_right
 ·
  have q3 : (ev == 3) = false := by simp [e3]
  have q0 : (ev == 0) = false := by simp [e0]
  have q1 : (ev == 1) = false := by simp [e1]
  have q2 : (ev == 2) = false := by simp [e2]
  have p3 : decide (ev = 3) = false := decide_eq_false e3
  have p0 : decide (ev = 0) = false := decide_eq_false e0
  have p1 : decide (ev = 1) = false := decide_eq_false e1
  have p2 : decide (ev = 2) = false := decide_eq_false e2
  cases v <;> cases k
  all_goals
   simp [e3, e0, e1, e2] at h
   obtain ⟨rfl, rfl⟩ := h
   clear e3 e0 e1 e2
   have y0 := b_v H4 0 (.int .i64 m) rfl
   have y1 := b_v H4 1 (.int .i64 si) rfl
   have z0 := b_v H8 0 (.int .i64 0) rfl
   have z1 := b_v H8 1 (.int .i64 0) rfl
   have e0 := b_z H8 0
   have e1 := b_z H8 1
   repeat
    go_wp2_with fail
    first
     | refine (HV.out _).mono ?_
     | refine (HS.out _).mono ?_
     | refine (HM.out _).mono ?_
    rintro e w2 ⟨rfl, hb⟩
    replace H4 := b_b H4 hb
    replace H8 := b_b H8 hb
    replace HB := b_s HB hb
    clear hb y0 y1 z0 z1 e0 e1
    have y0 := b_v H4 0 (.int .i64 m) rfl
    have y1 := b_v H4 1 (.int .i64 si) rfl
    have z0 := b_v H8 0 (.int .i64 0) rfl
    have z1 := b_v H8 1 (.int .i64 0) rfl
    have e0 := b_z H8 0
    have e1 := b_z H8 1
   go_wp2_with fail
   exact bodyPost_ret (results_cell_row rfl _ _ b8 54 _ (0, 0) _ rfl (two54 rfl H8.out g8 HB.out _ _).1 Tryz.underlying54 rfl (by kernel_rfl)) rfl ⟨rfl, (two54 rfl H8.out g8 HB.out _ _).2⟩
 all_goals cases v <;> cases k
 all_goals
  simp at h
  obtain ⟨rfl, rfl⟩ := h
  have y0 := b_v H4 0 (.int .i64 m) rfl
  have y1 := b_v H4 1 (.int .i64 si) rfl
  have z0 := b_v H8 0 (.int .i64 0) rfl
  have z1 := b_v H8 1 (.int .i64 0) rfl
  have e0 := b_z H8 0
  have e1 := b_z H8 1
  repeat
   go_wp2_with fail
   first
    | refine (HV.out _).mono ?_
    | refine (HS.out _).mono ?_
    | refine (HM.out _).mono ?_
   rintro e w2 ⟨rfl, hb⟩
   replace H4 := b_b H4 hb
   replace H8 := b_b H8 hb
   replace HB := b_s HB hb
   clear hb y0 y1 z0 z1 e0 e1
   have y0 := b_v H4 0 (.int .i64 m) rfl
   have y1 := b_v H4 1 (.int .i64 si) rfl
   have z0 := b_v H8 0 (.int .i64 0) rfl
   have z1 := b_v H8 1 (.int .i64 0) rfl
   have e0 := b_z H8 0
   have e1 := b_z H8 1
  go_wp2_with fail
  exact bodyPost_ret (results_cell_row rfl _ _ b8 54 _ (0, 0) _ rfl (two54 rfl H8.out g8 HB.out _ _).1 Tryz.underlying54 rfl (by kernel_rfl)) rfl ⟨rfl, (two54 rfl H8.out g8 HB.out _ _).2⟩
set_option maxRecDepth 100000 in
set_option maxHeartbeats 4000000 in
theorem brings_c (a p : Int) (has sh : Bool) (cn : Int) (ok : Bool) (w : World) (h : baro_Brings.f a has p sh = some (cn, ok)) : Calls Tryz.prog 23 #[.agg #[a, .bool has, p, .bool sh]] w fun e w' => e = .returned (.tuple #[cn, .bool ok]) ∧ Below w.heap.size w w' := by
 rw [brings_f] at h
 have hgd := fun w => good_any w p
 generalize good p = k at h hgd
 have hkind : ∀ w, Calls Tryz.prog 63 #[.agg #[a, .bool has, p, .bool sh]] w fun e w' => e = .returned (.int .i64 (if has then (if k then 0 else 1) else 2)) ∧ Below w.heap.size w w' := by
  intro w
  have hx := blk_new w (.cells #[a, .bool has, p, .bool sh] 37)
  have HB := am (below_alloc (Below.refl w.heap.size w) (.cells #[a, .bool has, p, .bool sh] 37))
  go_enter Tryz.func63, Tryz.ntmps63
  go_upto_region 1 with fail
  generalize w.alloc (.cells #[a, .bool has, p, .bool sh] 37) = w1 at hx HB ⊢
  generalize w.heap.size = b at hx ⊢
  have y1 := bcv hx 1 (.bool has) rfl
  have y2 := bcv hx 2 (.int .i64 p) rfl
  clear hx h
  have HGD := am hgd
  clear hgd
  cases has with
  | false =>
   go_wp2_with fail
   go_ret
   exact ⟨rfl, HB.out⟩
  | true =>
   cases k
   all_goals
    go_wp2_with fail
    refine (HGD.out w1).mono ?_
    rintro e w2 ⟨rfl, hb⟩
    replace HB := b_s HB hb
    clear hb y1 y2
    go_wp2_with fail
    go_ret
    exact ⟨rfl, HB.out⟩
 have HK := am hkind
 clear hkind hgd
 have hx := blk_new w (.cells #[a, .bool has, p, .bool sh] 37)
 have HB := am (below_alloc (Below.refl w.heap.size w) (.cells #[a, .bool has, p, .bool sh] 37))
 go_enter Tryz.func23, Tryz.ntmps23
 go_upto_region 1 with fail
 generalize w.alloc (.cells #[a, .bool has, p, .bool sh] 37) = w1 at hx HB ⊢
 generalize w.heap.size = b at hx ⊢
 have HX := am hx
 have y0 := bcv hx 0 (.int .i64 a) rfl
 have y1 := bcv hx 1 (.bool has) rfl
 have y2 := bcv hx 2 (.int .i64 p) rfl
 have y3 := bcv hx 3 (.bool sh) rfl
 clear hx
 cases has <;> cases k
 all_goals
  simp at h
  obtain ⟨rfl, rfl⟩ := h
  go_wp2_with fail
  refine (HK.out w1).mono ?_
  rintro e w2 ⟨rfl, hb⟩
  replace HB := b_s HB hb
  replace HX := b_b HX hb
  clear hb y0 y1 y2 y3
  have y2 := b_v HX 2 (.int .i64 p) rfl
  go_wp2_with fail
  go_ret2
  exact ⟨rfl, HB.out⟩
end Go.Proofs.YtpdahkgandaabaaGreatDoor.Ch
