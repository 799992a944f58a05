/- A part of the proof of TopAgain, where the package's tables hold what their initialisers lay. -/
import Derived.Test.YtpdahkgandaabaaGreatDoorT01
import Derived.Test.YtpdahkgandaabaaGreatDoorT02
import Derived.Test.YtpdahkgandaabaaGreatDoorT09
namespace Go.Proofs.YtpdahkgandaabaaGreatDoor.Ch
open Go.RowKit Go.Proofs.YtpdahkgandaabaaGreatDoorW.PrintWords Go.Proofs.YtpdahkgandaabaaGreatDoorW.PrintLast Go.Proofs.YtpdahkgandaabaaGreatDoorW.PrintMore Go.Proofs.YtpdahkgandaabaaGreatDoor.PTopNames
set_option linter.unusedVariables false
set_option linter.unusedSimpArgs false
def clipped (c : Cf) (a : Int) : Bool := decide (a ≤ wrap64 (-c.clip)) || decide (c.clip ≤ a)
def thrustOf (c : Cf) (a : Int) : Int := wrap64 (wrap64 (a - c.rest) * c.sc)
def thV (c : Cf) (a : Int) : Int := if clipped c a then 0 else thrustOf c a
def thE (c : Cf) (a : Int) : Int := if clipped c a then 2 else 0
set_option maxRecDepth 100000 in
set_option maxHeartbeats 4000000 in
theorem thrust_any (w : World) (c : Cf) (a : Int) (hck : checkR c = 0) :
  Calls Tryz.prog 62 #[.agg c.v, a] w fun e w' => e = .returned (.tuple #[.int .i64 (thV c a), .int .i64 (thE c a)]) ∧ Below w.heap.size w w' := by
 have HC := am hck
 clear hck
 go_enter Tryz.func62, Tryz.ntmps62
 go_upto_region 1 with fail
 have HX := am (blk_new w (.cells c.v 28))
 have HB := am (below_alloc (Below.refl w.heap.size w) (.cells c.v 28))
 generalize w.alloc (.cells c.v 28) = w1 at HX HB ⊢
 obtain ⟨b, hb⟩ := e_x (w.heap.size)
 rw [← hb] at HX ⊢
 clear hb
 iterate 2 go_step
 refine wp_load_row 28 (.tmp 2) rfl b rfl 28 c.v (0, 0) _ HX.out Tryz.underlying28 rfl (by kernel_rfl) ?_
 go_wp2_with fail
 refine (check_any w1 c).mono ?_
 rintro e w2 ⟨rfl, hb⟩
 rw [HC.out]
 replace HX := b_b HX hb
 replace HB := b_s HB hb
 clear hb
 have x26 := b_v HX 26 (.int .i64 c.clip) rfl
 have x25 := b_v HX 25 (.int .i64 c.rest) rfl
 have x24 := b_v HX 24 (.int .i64 c.sc) rfl
 by_cases h1 : a ≤ wrap64 (-c.clip)
 ·
  have d1 : decide (a ≤ wrap64 (-c.clip)) = true := decide_eq_true h1
  have HQ := am (show clipped c a = true by simp [clipped, h1])
  go_wp2_with fail
  go_ret2
  exact ⟨by simp [thV, thE, HQ.out], HB.out⟩
 have d1 : decide (a ≤ wrap64 (-c.clip)) = false := decide_eq_false h1
 by_cases h2 : c.clip ≤ a
 ·
  have d2 : decide (c.clip ≤ a) = true := decide_eq_true h2
  have HQ := am (show clipped c a = true by simp [clipped, h2])
  go_wp2_with fail
  go_ret2
  exact ⟨by simp [thV, thE, HQ.out], HB.out⟩
 have d2 : decide (c.clip ≤ a) = false := decide_eq_false h2
 have HQ := am (show clipped c a = false by simp only [clipped, d1, d2]; rfl)
 go_wp2_with fail
 go_ret2
 exact ⟨by simp [thV, thE, HQ.out, thrustOf], HB.out⟩
def feedV (last run : Int) (c : Cf) : Array Value := #[.int .i64 last, .int .i64 run, .int .i64 c.q0, .int .i64 c.q1, .int .i64 c.q2, .int .i64 c.l0, .int .i64 c.l1, .int .i64 c.l2, .int .i64 c.r, .int .i64 c.rg, .int .i64 c.s0, .int .i64 c.s1, .int .i64 c.s2, .int .i64 c.f0, .int .i64 c.f1, .int .i64 c.f2, .int .i64 c.c0, .int .i64 c.c1, .int .i64 c.c2, .int .i64 c.b0, .int .i64 c.b1, .int .i64 c.b2, .int .i64 c.g, .int .i64 c.t0, .int .i64 c.t1, .int .i64 c.t2, .int .i64 c.sc, .int .i64 c.rest, .int .i64 c.clip, .int .i64 c.hold, .int .i64 c.coast, .int .i64 c.out, .int .i64 c.band]
theorem feedV_conf (last run : Int) (c : Cf) : (feedV last run c).extract 2 33 = c.v := by kernel_rfl
set_option maxRecDepth 100000 in
set_option maxHeartbeats 4000000 in
theorem anew_any (w : World) (c : Cf) (hck : checkR c = 0) :
  Calls Tryz.prog 20 #[.agg c.v] w fun e w' => ∃ f : Nat, e = .returned (.tuple #[.pointer (some ⟨f, 0, none⟩), ()]) ∧ w'.heap[f]? = some (.cells (feedV 0 0 c) 101 (0, 0)) ∧ w.heap.size ≤ f ∧ Below w.heap.size w w' := by
 have HC := am hck
 clear hck
 go_enter Tryz.func20, Tryz.ntmps20
 go_upto_region 1 with fail
 have HX := am (blk_new w (.cells c.v 28))
 have HB := am (below_alloc (Below.refl w.heap.size w) (.cells c.v 28))
 generalize w.alloc (.cells c.v 28) = w1 at HX HB ⊢
 obtain ⟨b, hb⟩ := e_x (w.heap.size)
 rw [← hb] at HX ⊢
 clear hb
 iterate 2 go_step
 refine wp_load_row 28 (.tmp 1) rfl b rfl 28 c.v (0, 0) _ HX.out Tryz.underlying28 rfl (by kernel_rfl) ?_
 go_wp2_with fail
 refine (check_any w1 c).mono ?_
 rintro e w2 ⟨rfl, hb⟩
 rw [HC.out]
 replace HX := b_b HX hb
 replace HB := b_s HB hb
 clear hb
 go_upto_region 3 with fail
 iterate 2 go_step
 refine wp_load_row 28 (.tmp 1) rfl b rfl 28 c.v (0, 0) _ HX.out Tryz.underlying28 rfl (by kernel_rfl) ?_
 unfold Cf.v
 go_wp2_with fail
 go_ret2
 exact ⟨w2.heap.size, rfl, blk_new w2 (.cells (feedV 0 0 c) 101), HB.out.size, below_alloc HB.out _⟩
theorem wp_load_part {P : Program} {op : Oper} {a : Act} {w : World} {K : Act → World → Prop} {Q : Exit → Act → World → Prop} (ty : TypeId) (x : Operand) (ho : op.op = .load ty x)
  (b o n : Nat) (hx : a.eval x = .pointer (some ⟨b, o, none⟩)) (C cs : Array Value) (t : TypeId) (hg : w.heap[b]? = some (.cells C t (0, 0))) (hc : C.extract o (o + n) = cs) (d : TypeDesc)
  (hu : P.underlying ty = some d) (hd : d.isRow = true) (hi : (P.info? ty).map (·.size) = some cs.toList.length)
  (h : K (a.put op.dst (.agg cs)) w) : op.wp P a w K Q := by
 subst hc
 refine wp_load_mid ty x ho b o hx _ d (World.rangeAt_of_block hg o n) hu hd hi ?_
 rw [Array.toArray_toList]
 exact h
def inT (c : Cf) (last a : Int) : Int := if clipped c a then last else thrustOf c a
def inRun (c : Cf) (run a : Int) : Int := if clipped c a then wrap64 (run + 1) else 0
def inLost (c : Cf) (run a : Int) : Bool := clipped c a && decide (c.hold < wrap64 (run + 1))
set_option maxRecDepth 100000 in
set_option maxHeartbeats 4000000 in
theorem in_any (w0 w : World) (f : Nat) (c : Cf) (last run a : Int) (hF : w.heap[f]? = some (.cells (feedV last run c) 101 (0, 0))) (hf : w0.heap.size ≤ f) (hB : Below w0.heap.size w0 w) (hck : checkR c = 0) :
  Calls Tryz.prog 22 #[.pointer (some ⟨f, 0, none⟩), a] w fun e w' => e = .returned (.tuple #[.int .i64 (inT c last a), .bool (clipped c a), .bool (inLost c run a)]) ∧
   w'.heap[f]? = some (.cells (feedV (inT c last a) (inRun c run a) c) 101 (0, 0)) ∧ Below w0.heap.size w0 w' ∧ KeepBut w w' f none := by
 have HF := am hF
 have HB := am hB
 have HC := am hck
 clear hF hB hck
 go_enter Tryz.func22, Tryz.ntmps22
 go_upto_region 1 with fail
 iterate 11 go_step
 refine wp_load_part 28 (.tmp 12) rfl f 2 31 rfl (feedV last run c) c.v 101 HF.out (feedV_conf last run c) _ Tryz.underlying28 rfl (by kernel_rfl) ?_
 go_wp2_with fail
 refine (thrust_any w c a HC.out).mono ?_
 rintro e w1 ⟨rfl, hb⟩
 have HK := am (KeepBut.of_below hb f none)
 replace HF := b_b HF hb
 replace HB := b_s HB hb
 clear hb
 have y0 := b_v HF 0 (.int .i64 last) rfl
 have y1 := b_v HF 1 (.int .i64 run) rfl
 have f0 := b_z HF 0
 have f1 := b_z HF 1
 cases hq : clipped c a with
 | false =>
  have HQ := am hq
  have HV := am (show thV c a = thrustOf c a by simp [thV, hq])
  have HE := am (show thE c a = 0 by simp [thE, hq])
  have HT := am (show inT c last a = thrustOf c a by simp [inT, hq])
  have HN := am (show inRun c run a = 0 by simp [inRun, hq])
  have HL := am (show inLost c run a = false by simp [inLost, hq])
  clear hq
  rw [HV.out, HE.out]
  go_wp2_with fail
  refine bodyPost_ret (results_tmp3 rfl _ _ _) rfl ?_
  refine ⟨by rw [HT.out, HL.out, HQ.out]; rfl, ?_, (HB.out.setCell (p := ⟨f, 0, none⟩) hf _).setCell (p := ⟨f, 1, none⟩) hf _, (HK.out.set_ 0 _).set_ 1 _⟩
  rw [HT.out, HN.out]
  exact (blk_set (blk_set HF.out 0 _) 1 _).trans (by kernel_rfl)
 | true =>
  have HQ := am hq
  have HV := am (show thV c a = 0 by simp [thV, hq])
  have HE := am (show thE c a = 2 by simp [thE, hq])
  have HT := am (show inT c last a = last by simp [inT, hq])
  have HN := am (show inRun c run a = wrap64 (run + 1) by simp [inRun, hq])
  have HL := am (show inLost c run a = decide (c.hold < wrap64 (run + 1)) by simp [inLost, hq])
  clear hq
  rw [HV.out, HE.out]
  go_upto_region 6 with fail
  have q := (blk_set HF.out 1 (.int .i64 (wrap64 (run + 1)))).trans (show _ = some (Obj.cells (feedV last (wrap64 (run + 1)) c) 101 (0, 0)) by kernel_rfl)
  replace HF := am q
  replace HB := am (HB.out.setCell (p := ⟨f, 1, none⟩) hf (.int .i64 (wrap64 (run + 1))))
  replace HK := am (HK.out.set_ 1 (.int .i64 (wrap64 (run + 1))))
  clear q y0 y1 f0 f1
  generalize w1.setCell ⟨f, 1, none⟩ (.int .i64 (wrap64 (run + 1))) = w2 at HF HB HK ⊢
  have y0 := b_v HF 0 (.int .i64 last) rfl
  have y1 := b_v HF 1 (.int .i64 (wrap64 (run + 1))) rfl
  have y29 := b_v HF 29 (.int .i64 c.hold) rfl
  go_quiet (fail)
  go_wp2_with fail
  refine bodyPost_ret (results_tmp3 rfl _ _ _) rfl ?_
  refine ⟨by rw [HT.out, HL.out, HQ.out]; rfl, ?_, pw_below_drewN HB.out _, HK.out⟩
  rw [HT.out, HN.out]
  exact HF.out
structure Gs where
 (x0 x1 x2 p0 p1 p2 p3 p4 p5 : Int)
def chanV (s : Gs) (c : Cf) (f gr : Nat) (v : Value) (mode since : Int) : Array Value := #[.int .i64 s.x0, .int .i64 s.x1, .int .i64 s.x2, .int .i64 s.p0, .int .i64 s.p1, .int .i64 s.p2, .int .i64 s.p3, .int .i64 s.p4, .int .i64 s.p5, .int .i64 c.q0, .int .i64 c.q1, .int .i64 c.q2, .int .i64 c.l0, .int .i64 c.l1, .int .i64 c.l2, .int .i64 c.r, .int .i64 c.rg, .int .i64 c.s0, .int .i64 c.s1, .int .i64 c.s2, .int .i64 c.f0, .int .i64 c.f1, .int .i64 c.f2, .int .i64 c.c0, .int .i64 c.c1, .int .i64 c.c2, .int .i64 c.b0, .int .i64 c.b1, .int .i64 c.b2, .int .i64 c.g, .int .i64 c.t0, .int .i64 c.t1, .int .i64 c.t2, .int .i64 c.sc, .int .i64 c.rest, .int .i64 c.clip, .int .i64 c.hold, .int .i64 c.coast, .int .i64 c.out, .int .i64 c.band, .pointer (some ⟨f, 0, none⟩), v, .pointer (some ⟨gr, 0, none⟩), .int .i64 mode, .int .i64 since]
theorem exec_load_part {P : Program} {op : Oper} {a : Act} {w : World} (ty : TypeId) (x : Operand) (ho : op.op = .load ty x)
  (b o n : Nat) (hx : a.eval x = .pointer (some ⟨b, o, none⟩)) (C cs : Array Value) (t : TypeId) (hg : w.heap[b]? = some (.cells C t (0, 0))) (hc : C.extract o (o + n) = cs) (d : TypeDesc)
  (hu : P.underlying ty = some d) (hd : d.isRow = true) (hi : (P.info? ty).map (·.size) = some cs.toList.length) :
  (execOp a.eval op).run P w = .ok (.value (.agg cs)) w := by
 subst hc
 have hl := run_loadVar_mid w b o ty _ d (World.rangeAt_of_block hg o n) hu hd hi
 rw [Array.toArray_toList] at hl
 unfold execOp
 simp only [ho, hx, Instr.loadAt, Instr.sureAddr, Sem.run_bind, Sem.run_pure, Result.andThen_ok, hl]
set_option maxRecDepth 100000 in
set_option maxHeartbeats 4000000 in
theorem new_any (w : World) (c : Cf) (hck : checkR c = 0) :
  Calls Tryz.prog 9 #[.agg c.v] w fun e w' => ∃ g f gr : Nat, e = .returned (.tuple #[.pointer (some ⟨g, 0, none⟩), ()]) ∧ w'.heap[g]? = some (.cells (chanV ⟨0, 0, 0, 0, 0, 0, 0, 0, 0⟩ c f gr (.slice none 0 0) 0 0) 56 (0, 0)) ∧
   w'.heap[f]? = some (.cells (feedV 0 0 c) 101 (0, 0)) ∧ IsS93 w w' gr (mx c.band 0) c.r c.rg 0 false ∧ w.heap.size ≤ g ∧ w.heap.size ≤ f ∧ Below w.heap.size w w' := by
 have HC := am hck
 clear hck
 go_enter Tryz.func9, Tryz.ntmps9
 go_upto_region 1 with fail
 have HX := am (blk_new w (.cells c.v 28))
 have HB := am (below_alloc (Below.refl w.heap.size w) (.cells c.v 28))
 generalize w.alloc (.cells c.v 28) = w1 at HX HB ⊢
 obtain ⟨b, hb⟩ := e_x (w.heap.size)
 rw [← hb] at HX ⊢
 clear hb
 iterate 2 go_step
 refine wp_load_row 28 (.tmp 1) rfl b rfl 28 c.v (0, 0) _ HX.out Tryz.underlying28 rfl (by kernel_rfl) ?_
 go_wp2_with fail
 refine (anew_any w1 c HC.out).mono ?_
 rintro e w2 ⟨f, rfl, hF, hf, hb⟩
 replace HX := b_b HX hb
 have HF := am hF
 have HG := am (Nat.le_trans HB.out.size hf)
 replace HB := b_s HB hb
 clear hF hf hb
 go_upto_region 4 with fail
 refine s_t 13 (fun w' => w'.heap[b]? = some (.cells c.v 28 (0, 0))) HX.out (fun hHeld => ?_)
 replace HX := b_d HX
 replace HF := b_d HF
 replace HB := am (below_drew HB.out)
 generalize w2.drew = wd at HX HF HB hHeld ⊢
 refine take_ (i := 0) (N := (some 14)) (v := (.agg c.v)) (a' := ?_) (flg 13 1) rfl rfl (by kernel_rfl) (fun _ _ _ h => h) (Or.inl ⟨by rfl, ?_⟩) hHeld ?_ ?_
 ·
  rintro w' s0
  exact exec_load_part 28 (.tmp 1) rfl b 0 31 rfl c.v c.v 28 s0 (by kernel_rfl) _ Tryz.underlying28 rfl (by kernel_rfl)
 rotate_left
 ·
  simp only [pw]
  rfl
 refine p_u 1 15 13 3 ?_
 refine p_u 2 16 13 7 ?_
 refine t_a 3 17 13 15 hHeld ?_ (hv := by rintro w' s0; have x := bcv s0 30 (.int .i64 c.band) rfl; go_simp; with_reducible rfl)
 refine p_u 4 18 13 31 ?_
 refine t_a 5 19 13 63 hHeld ?_ (hv := by rintro w' s0; have x := bcv s0 6 (.int .i64 c.r) rfl; go_simp; with_reducible rfl)
 refine p_u 6 20 13 127 ?_
 refine t_a 7 21 13 255 hHeld ?_ (hv := by rintro w' s0; have x := bcv s0 7 (.int .i64 c.rg) rfl; go_simp; with_reducible rfl)
 refine o_n 8 22 13 511 fun K hK => ?_
 refine g_s Tryz.func21 #[c.band, c.r, c.rg] ?_
 refine (ground_New.calls c.band c.r c.rg (mx c.band 0) c.r c.rg 0 false w wd HB.out rfl).mono ?_
 rintro e we ⟨gr, rfl, hI, hB, hb⟩
 have HI := am hI
 replace HX := b_b HX hb
 replace HF := b_b HF hb
 replace HB := am hB
 clear hI hB hb hHeld
 refine ⟨_, rfl, ?_⟩
 refine hK.out _ _ HX.out (fun hHeld => ?_)
 clear hK K
 refine n_o 22 ?_
 refine pure_ (i := 9) (N := (some 23)) (v := (.agg (chanV ⟨0, 0, 0, 0, 0, 0, 0, 0, 0⟩ c f gr (.slice none 0 0) 0 0))) (a' := ?_) (flg 13 1023) rfl rfl (by kernel_rfl) (fun _ _ _ h => h) (Or.inl ⟨by rfl, ?_⟩) ?_ ?_
 ·
  intro w'
  kernel_rfl
 rotate_left
 ·
  simp only [pw]
  rfl
 refine o_n 10 24 13 2047 fun K hK => ?_
 refine event_step (v := .pointer (some ⟨we.heap.size, 0, none⟩)) (w1 := we.alloc (.cells (chanV ⟨0, 0, 0, 0, 0, 0, 0, 0, 0⟩ c f gr (.slice none 0 0) 0 0) 56)) (by rfl) (by first | kernel_rfl | (go_simp; done) | (go_simp; rfl)) ?_
 have HGX := am (blk_new we (.cells (chanV ⟨0, 0, 0, 0, 0, 0, 0, 0, 0⟩ c f gr (.slice none 0 0) 0 0) 56))
 have HGG := am HB.out.size
 replace HX := am (blk_alloc HX.out (.cells (chanV ⟨0, 0, 0, 0, 0, 0, 0, 0, 0⟩ c f gr (.slice none 0 0) 0 0) 56))
 replace HF := am (blk_alloc HF.out (.cells (chanV ⟨0, 0, 0, 0, 0, 0, 0, 0, 0⟩ c f gr (.slice none 0 0) 0 0) 56))
 replace HI := am (HI.out.alloc (.cells (chanV ⟨0, 0, 0, 0, 0, 0, 0, 0, 0⟩ c f gr (.slice none 0 0) 0 0) 56))
 replace HB := am (below_alloc HB.out (.cells (chanV ⟨0, 0, 0, 0, 0, 0, 0, 0, 0⟩ c f gr (.slice none 0 0) 0 0) 56))
 clear hHeld
 generalize we.alloc (.cells (chanV ⟨0, 0, 0, 0, 0, 0, 0, 0, 0⟩ c f gr (.slice none 0 0) 0 0) 56) = wf at HX HF HI HB HGX ⊢
 generalize we.heap.size = g at HGX HGG ⊢
 refine hK.out _ _ HX.out (fun hHeld => ?_)
 clear hK K
 refine n_o 24 ?_
 refine p_u 11 2 13 4095 ?_
 refine p_u 12 3 13 8191 ?_
 refine d_n ?_
 go_wp2_with fail
 go_ret2
 exact ⟨g, f, gr, rfl, HGX.out, HF.out, HI.out, HGG.out, HG.out, HB.out⟩
end Go.Proofs.YtpdahkgandaabaaGreatDoor.Ch
namespace Go.Proofs.YtpdahkgandaabaaGreatDoor.Ch
open Go.RowKit Go.Proofs.YtpdahkgandaabaaGreatDoorW.PrintWords Go.Proofs.YtpdahkgandaabaaGreatDoorW.PrintLast Go.Proofs.YtpdahkgandaabaaGreatDoorW.PrintMore Go.Proofs.YtpdahkgandaabaaGreatDoor.PTopNames Go.Proofs.YtpdahkgandaabaaGreatDoor.Al
set_option linter.unusedVariables false
set_option linter.unusedSimpArgs false
theorem good_is (w : World) (c : Int) (b : Bool) (h : good c = b) : Calls Tryz.prog 91 #[c] w fun e w' => e = .returned (.bool b) ∧ Below w.heap.size w w' := by
 rw [← h]
 exact good_any w c
set_option maxRecDepth 100000 in
set_option maxHeartbeats 4000000 in
theorem set_any (w0 w : World) (g : Nat) (band noise rough count : Int) (known : Bool) (c : Int) (hI : IsS93 w0 w g band noise rough count known) (hB : Below w0.heap.size w0 w) :
  Calls Tryz.prog 66 #[.pointer (some ⟨g, 0, none⟩), c] w fun e w' => e = .returned (.int .i64 (if good c then (if known then 7 else 0) else 2)) ∧
   IsS93 w0 w' g band noise rough (if good c && !known then c else count) (known || good c) ∧ Below w0.heap.size w0 w' ∧ KeepBut w w' g none := by
 have HI := am hI
 have HB := am hB
 clear hI hB
 cases hg : good c with
 | false =>
  go_enter Tryz.func66, Tryz.ntmps66
  go_wp2_with fail
  refine (good_is _ c false hg).mono ?_
  rintro e w1 ⟨rfl, hb⟩
  go_wp2_with fail
  go_ret
  exact ⟨rfl, by simpa using HI.out.below hb, below_step HB.out hb, KeepBut.of_below hb _ _⟩
 | true =>
  cases known with
  | true =>
   go_enter Tryz.func66, Tryz.ntmps66
   go_wp2_with fail
   refine (good_is _ c true hg).mono ?_
   rintro e w1 ⟨rfl, hb⟩
   have HI1 := am (HI.out.below hb)
   replace HB := b_s HB hb
   have HK := am (KeepBut.of_below hb g none)
   have x4 := cellS93_4 HI1.out.1
   clear hb
   go_wp2_with fail
   go_ret
   exact ⟨rfl, by simpa using HI1.out, HB.out, HK.out⟩
  | false =>
   go_enter Tryz.func66, Tryz.ntmps66
   go_wp2_with fail
   refine (good_is _ c true hg).mono ?_
   rintro e w1 ⟨rfl, hb⟩
   have HI1 := am (HI.out.below hb)
   replace HB := b_s HB hb
   have HK := am (KeepBut.of_below hb g none)
   have x3 := cellS93_3 HI1.out.1
   have x4 := cellS93_4 HI1.out.1
   have f3 := bfz HI1.out.1 3
   have f4 := bfz HI1.out.1 4
   clear hb
   go_wp2_with fail
   go_ret
   refine ⟨rfl, ?_, ?_, (HK.out.set_ 3 _).set_ 4 _⟩
   ·
    simpa using (HI1.out.set_3 c).set_4 true
   exact (HB.out.setCell (p := ⟨g, 3, none⟩) HI1.out.ge _).setCell (p := ⟨g, 4, none⟩) HI1.out.ge _
structure Chan (w0 W : World) (g f gr : Nat) (s : Gs) (c : Cf) (v : Value) (mode since last run band noise rough count : Int) (known : Bool) (l : List Int) : Prop where
 hg : W.heap[g]? = some (.cells (chanV s c f gr v mode since) 56 (0, 0))
 hf : W.heap[f]? = some (.cells (feedV last run c) 101 (0, 0))
 hi : IsS93 w0 W gr band noise rough count known
 hr : Kd.R (Kd.int .i64) 2 W w0.heap.size (fun _ => True) v l
 g0 : w0.heap.size ≤ g
 f0 : w0.heap.size ≤ f
 hb : Below w0.heap.size w0 W
section
variable {w0 W W' : World} {g f gr : Nat} {s s' : Gs} {c : Cf} {v v' : Value} {mode since mode' since' last run band noise rough count : Int} {known : Bool} {l l' : List Int}
theorem Chan.below (h : Chan w0 W g f gr s c v mode since last run band noise rough count known l) (hb : Below W.heap.size W W') : Chan w0 W' g f gr s c v mode since last run band noise rough count known l :=
 ⟨blk_below h.hg hb, blk_below h.hf hb, h.hi.below hb, Kd.R_below h.hr hb, h.g0, h.f0, below_step h.hb hb⟩
theorem Chan.drewN (h : Chan w0 W g f gr s c v mode since last run band noise rough count known l) (n : Nat) : Chan w0 (W.drewN n) g f gr s c v mode since last run band noise rough count known l :=
 h.below (pw_below_drewN (Below.refl _ _) n)
theorem Chan.alloc (h : Chan w0 W g f gr s c v mode since last run band noise rough count known l) (o : Obj) : Chan w0 (W.alloc o) g f gr s c v mode since last run band noise rough count known l :=
 h.below (below_alloc (Below.refl _ _) o)
theorem Chan.fg (h : Chan w0 W g f gr s c v mode since last run band noise rough count known l) : f ≠ g := blk_ne h.hf h.hg (by decide)
theorem Chan.gg (h : Chan w0 W g f gr s c v mode since last run band noise rough count known l) : gr ≠ g := h.hi.ne_blk h.hg (by decide)
theorem Chan.row (h : Chan w0 W g f gr s c v mode since last run band noise rough count known l) : some g ≠ v.ownBlock := Kd.R_ne h.hr h.hg (by decide)
theorem Chan.set (h : Chan w0 W g f gr s c v mode since last run band noise rough count known l) (i : Nat) (u : Value) (e : (chanV s c f gr v mode since).setIfInBounds i u = chanV s' c f gr v mode' since') :
  Chan w0 (W.setCell ⟨g, i, none⟩ u) g f gr s' c v mode' since' last run band noise rough count known l :=
 ⟨e ▸ blk_set h.hg i u, blk_far h.hf h.fg u, h.hi.far h.gg u, Kd.R_mono (Kd.R_far (p := ⟨g, i, none⟩) (Kd.R_tight rfl h.hr) (fun k hk e => h.row (by rw [← hk, e])) _) (fun _ _ => trivial), h.g0, h.f0, h.hb.setCell (p := ⟨g, i, none⟩) h.g0 _⟩
theorem Chan.grow (h : Chan w0 W g f gr s c v mode since last run band noise rough count known l) (hb : Below w0.heap.size w0 W') (hw : W.grownBy W' v.ownBlock) (hr : Kd.R (Kd.int .i64) 2 W' w0.heap.size (fun _ => True) v' l') :
  Chan w0 (W'.setCell ⟨g, 41, none⟩ v') g f gr s c v' mode since last run band noise rough count known l' := by
 have hg' : W'.heap[g]? = some (.cells (chanV s c f gr v mode since) 56 (0, 0)) := blk_grown h.hg hw h.row
 have hf' : W'.heap[f]? = some (.cells (feedV last run c) 101 (0, 0)) := blk_grown h.hf hw (Kd.R_ne h.hr h.hf (by decide))
 have hi' : IsS93 w0 W' gr band noise rough count known := h.hi.grown hw (h.hi.own_ne h.hr (by decide))
 have hne := Kd.R_ne hr hg' (by decide)
 exact ⟨(show (chanV s c f gr v mode since).setIfInBounds 41 v' = chanV s c f gr v' mode since by kernel_rfl) ▸ blk_set hg' 41 v', blk_far hf' h.fg v', hi'.far h.gg v', Kd.R_mono (Kd.R_far (p := ⟨g, 41, none⟩) (Kd.R_tight rfl hr) (fun k hk e => hne (by rw [← hk, e])) _) (fun _ _ => trivial), h.g0, h.f0, hb.setCell (p := ⟨g, 41, none⟩) h.g0 _⟩
theorem Chan.ground (h : Chan w0 W g f gr s c v mode since last run band noise rough count known l) {count' : Int} {known' : Bool} (hi : IsS93 w0 W' gr band noise rough count' known') (hb : Below w0.heap.size w0 W') (hk : KeepBut W W' gr none) :
  Chan w0 W' g f gr s c v mode since last run band noise rough count' known' l :=
 ⟨(hk.2 g (blk_lt h.hg) (Ne.symm h.gg) (by simp)).trans h.hg, (hk.2 f (blk_lt h.hf) (Ne.symm (h.hi.ne_blk h.hf (by decide))) (by simp)).trans h.hf, hi,
  Kd.R_mono (Kd.R_keep (Kd.R_tight rfl h.hr) hk (fun k hk e => h.hi.own_ne h.hr (by decide) (by rw [← hk, e]))) (fun _ _ => trivial), h.g0, h.f0, hb⟩
theorem Chan.fed (h : Chan w0 W g f gr s c v mode since last run band noise rough count known l) {last' run' : Int} (hf : W'.heap[f]? = some (.cells (feedV last' run' c) 101 (0, 0))) (hb : Below w0.heap.size w0 W') (hk : KeepBut W W' f none) :
  Chan w0 W' g f gr s c v mode since last' run' band noise rough count known l :=
 ⟨(hk.2 g (blk_lt h.hg) (Ne.symm h.fg) (by simp)).trans h.hg, hf, h.hi.kept (S := fun k => k = f) ⟨hk.1, fun i hi hn => hk.2 i hi hn (by simp)⟩ (h.hi.ne_blk h.hf (by decide)),
  Kd.R_mono (Kd.R_keep (Kd.R_tight rfl h.hr) hk (fun k hk e => (Kd.R_ne h.hr h.hf (by decide)) (by rw [← hk, e]))) (fun _ _ => trivial), h.g0, h.f0, hb⟩
theorem Chan.guess (h : Chan w0 W g f gr s c v mode since last run band noise rough count known l) (s' : Gs) :
  Chan w0 (((((((((W.setCell ⟨g, 0, none⟩ (.int .i64 s'.x0)).setCell ⟨g, 1, none⟩ (.int .i64 s'.x1)).setCell ⟨g, 2, none⟩ (.int .i64 s'.x2)).setCell ⟨g, 3, none⟩ (.int .i64 s'.p0)).setCell ⟨g, 4, none⟩ (.int .i64 s'.p1)).setCell ⟨g, 5, none⟩ (.int .i64 s'.p2)).setCell ⟨g, 6, none⟩ (.int .i64 s'.p3)).setCell ⟨g, 7, none⟩ (.int .i64 s'.p4)).setCell ⟨g, 8, none⟩ (.int .i64 s'.p5))
   g f gr s' c v mode since last run band noise rough count known l := by
 have h1 := h.set 0 (.int .i64 s'.x0) (s' := ⟨s'.x0, s.x1, s.x2, s.p0, s.p1, s.p2, s.p3, s.p4, s.p5⟩) (mode' := mode) (since' := since) (by kernel_rfl)
 have h2 := h1.set 1 (.int .i64 s'.x1) (s' := ⟨s'.x0, s'.x1, s.x2, s.p0, s.p1, s.p2, s.p3, s.p4, s.p5⟩) (mode' := mode) (since' := since) (by kernel_rfl)
 have h3 := h2.set 2 (.int .i64 s'.x2) (s' := ⟨s'.x0, s'.x1, s'.x2, s.p0, s.p1, s.p2, s.p3, s.p4, s.p5⟩) (mode' := mode) (since' := since) (by kernel_rfl)
 have h4 := h3.set 3 (.int .i64 s'.p0) (s' := ⟨s'.x0, s'.x1, s'.x2, s'.p0, s.p1, s.p2, s.p3, s.p4, s.p5⟩) (mode' := mode) (since' := since) (by kernel_rfl)
 have h5 := h4.set 4 (.int .i64 s'.p1) (s' := ⟨s'.x0, s'.x1, s'.x2, s'.p0, s'.p1, s.p2, s.p3, s.p4, s.p5⟩) (mode' := mode) (since' := since) (by kernel_rfl)
 have h6 := h5.set 5 (.int .i64 s'.p2) (s' := ⟨s'.x0, s'.x1, s'.x2, s'.p0, s'.p1, s'.p2, s.p3, s.p4, s.p5⟩) (mode' := mode) (since' := since) (by kernel_rfl)
 have h7 := h6.set 6 (.int .i64 s'.p3) (s' := ⟨s'.x0, s'.x1, s'.x2, s'.p0, s'.p1, s'.p2, s'.p3, s.p4, s.p5⟩) (mode' := mode) (since' := since) (by kernel_rfl)
 have h8 := h7.set 7 (.int .i64 s'.p4) (s' := ⟨s'.x0, s'.x1, s'.x2, s'.p0, s'.p1, s'.p2, s'.p3, s'.p4, s.p5⟩) (mode' := mode) (since' := since) (by kernel_rfl)
 have h9 := h8.set 8 (.int .i64 s'.p5) (s' := s') (mode' := mode) (since' := since) (by kernel_rfl)
 exact h9
theorem Chan.drop (h : Chan w0 W g f gr s c v mode since last run band noise rough count known l) : Chan w0 (W.setCell ⟨g, 41, none⟩ (.slice none 0 0)) g f gr s c (.slice none 0 0) mode since last run band noise rough count known [] :=
 ⟨(show (chanV s c f gr v mode since).setIfInBounds 41 (.slice none 0 0) = chanV s c f gr (.slice none 0 0) mode since by kernel_rfl) ▸ blk_set h.hg 41 _, blk_far h.hf h.fg _, h.hi.far h.gg _, Kd.R_nil _ _ _ _ _, h.g0, h.f0, h.hb.setCell (p := ⟨g, 41, none⟩) h.g0 _⟩
end
def OwT (w : World) (v v' : Value) : Prop := ∀ k, v'.ownBlock = some k → v.ownBlock = some k ∨ w.heap.size ≤ k
theorem OwT.of {w : World} {v v' : Value} (h : v'.ownBlock = v.ownBlock ∨ ∃ b, v'.ownBlock = some b ∧ w.heap.size ≤ b) : OwT w v v' := fun k hk => by
 rcases h with h | ⟨b, h, hb⟩
 ·
  exact .inl (by rw [← h]; exact hk)
 rw [h] at hk
 cases hk
 exact .inr hb
theorem info2 : (Tryz.prog.info? 2).map (fun i => (i.zero, i.size, i.bytes)) = some (some (.int .i64 0), 1, 8) := by kernel_rfl
set_option maxRecDepth 100000 in
set_option maxHeartbeats 4000000 in
theorem diag_any (w : World) (a b c : Int) : Calls Tryz.prog 15 #[.agg #[a, b, c]] w fun e w' => e = .returned (.agg #[a, (), (), b, (), c]) ∧ Below w.heap.size w w' := by
 go_enter Tryz.func15, Tryz.ntmps15
 go_wp2_with fail
 refine bodyPost_ret (results_cell_row rfl _ _ (w.heap.size + 1) 46 #[a, (), (), b, (), c] (0, 0) _ rfl (blocks2 w _ _ 26 46).2.1 Tryz.underlying46 rfl (by kernel_rfl)) rfl ?_
 exact ⟨rfl, below_alloc (below_alloc (Below.refl _ _) _) _⟩
set_option maxRecDepth 100000 in
set_option maxHeartbeats 4000000 in
theorem seek_more (w0 w : World) (g f gr : Nat) (s : Gs) (c : Cf) (v : Value) (mode since last run band noise rough count : Int) (known : Bool) (l : List Int) (n : Int)
  (h : Chan w0 w g f gr s c v mode since last run band noise rough count known l) (hl : l.length < 15) :
  Calls Tryz.prog 25 #[.pointer (some ⟨g, 0, none⟩), n] w fun e w' => ∃ v', e = .returned (.bool false) ∧ Chan w0 w' g f gr s c v' mode since last run band noise rough count known (l ++ [n]) ∧ Kept w w' (fun k => k = g ∨ k = gr ∨ v.ownBlock = some k) ∧ OwT w v v' := by
 have hle : l.length ≤ 15 := by omega
 obtain ⟨A, cc, rfl, hcc, _⟩ := Kd.R_reads h.hr
 have H := am h
 clear h
 have x41 := bcv H.out.hg 41 (.slice A l.length cc) rfl
 go_enter Tryz.func25, Tryz.ntmps25
 go_upto_region 2 with (first | ((with_reducible refine gate_builtin (b := .append) rfl ?_); refine Kd.R_append (Kd.int .i64) (w0 := w0) (W := w) w0.heap.size rfl (.tmp 13) (.tmp 15) 43 2 (.int .i64 0) 8 rfl Tryz.underlying43 info2 rfl (by decide) (by decide) (.slice A l.length cc) l n [.int .i64 n] (fun _ => True) (fun _ => False) rfl rfl rfl (fun _ hk => hk.elim) (fun _ _ => trivial) ?h1 ?h2 ?h3 ?h4 ?_; (case h1 => exact H.out.hr); (case h2 => exact H.out.hb); (case h3 => exact H.out.hb.size); (case h4 => omega); intro v1 w2 hr1 hb1 hg1 hat1; obtain ⟨A1, c1, rfl⟩ := Kd.R_slice hr1; have e4 : w2.cell? ⟨g, 41, none⟩ = some (.slice A l.length cc) := (blk_cell (blk_grown H.out.hg hg1 H.out.row) 41).trans rfl; have f4 : w2.frozen? ⟨g, 41, none⟩ = false := bfz (blk_grown H.out.hg hg1 H.out.row) 41))
 have H2 := am (H.out.grow hb1 hg1 hr1)
 have HO := am ((show Value.ownBlock (.slice A1 (l ++ [n]).length c1) = Value.ownBlock (.slice A l.length cc) ∨ _ from hat1))
 have HK := am ((Kept.of_grown hg1 (Kept.refl w (fun k => k = g ∨ k = gr ∨ (Value.slice A l.length cc).ownBlock = some k)) (fun k hk => .inl (.inr (.inr hk)))).setCell (p := ⟨g, 41, none⟩) (.inl (.inl rfl)) (.slice A1 (l ++ [n]).length c1))
 clear hr1 hb1 hg1 hat1 e4 f4 x41
 rw [show (l ++ [n]).length = l.length + 1 by simp] at H2 HO HK
 generalize w2.setCell ⟨g, 41, none⟩ (.slice A1 (l.length + 1) c1) = w3 at H2 HK ⊢
 obtain ⟨L, hL⟩ : ∃ L, L = l ++ [n] := ⟨_, rfl⟩
 have HLN := am (show l.length + 1 = L.length by rw [hL]; simp)
 rw [← hL] at H2
 rw [HLN.out] at H2 HO ⊢
 have hlen : L.length = l.length + 1 := HLN.out.symm
 have HL := am hL
 clear hL
 have x41 := bcv H2.out.hg 41 (.slice A1 L.length c1) rfl
 go_wp2_with fail
 go_ret
 refine ⟨.slice A1 L.length c1, rfl, ?_, HK.out, OwT.of HO.out⟩
 rw [← HL.out]
 exact H2.out
set_option maxRecDepth 100000 in
set_option maxHeartbeats 4000000 in
theorem seek_last (w0 w : World) (g f gr : Nat) (s : Gs) (c : Cf) (v : Value) (mode since last run band noise rough count : Int) (known : Bool) (l : List Int) (n : Int)
  (h : Chan w0 w g f gr s c v mode since last run band noise rough count known l) (hl : l.length = 15) (m em : Int) (hm : mean_Of.f 20 (l ++ [n]) = some (m, em)) (hT : Tab w0) :
  Calls Tryz.prog 25 #[.pointer (some ⟨g, 0, none⟩), n] w fun e w' => ∃ v', e = .returned (.bool true) ∧ Chan w0 w' g f gr ⟨if good m then alt m else 0, 0, 0, c.s0, 0, 0, c.s1, 0, c.s2⟩ c v' mode since last run band noise rough (if good m && !known then m else count) (known || good m) (l ++ [n]) ∧ Kept w w' (fun k => k = g ∨ k = gr ∨ v.ownBlock = some k) ∧ OwT w v v' := by
 have halt : ∀ w4, Tab w4 → _ := fun w4 hT => alt_any w4 m hT
 have hset := fun w7 hI hB => set_any w0 w7 gr band noise rough count known m hI hB
 generalize (if good m = true then alt m else 0) = z at halt ⊢
 generalize (if good m = true then (0 : Int) else 2) = ez at halt
 generalize (if (good m && !known) = true then m else count) = cn2 at hset ⊢
 generalize (known || good m) = kn2 at hset ⊢
 generalize (if good m = true then (if known = true then (7 : Int) else 0) else 2) = es at hset
 have HT := am hT
 have HM := am hm
 have HAL := am halt
 have HSE := am hset
 clear hT hm halt hset
 have hle : l.length ≤ 15 := by omega
 have hge : 15 ≤ l.length := by omega
 clear hl
 obtain ⟨A, cc, rfl, hcc, _⟩ := Kd.R_reads h.hr
 have H := am h
 clear h
 have x41 := bcv H.out.hg 41 (.slice A l.length cc) rfl
 go_enter Tryz.func25, Tryz.ntmps25
 go_upto_region 2 with (first | ((with_reducible refine gate_builtin (b := .append) rfl ?_); refine Kd.R_append (Kd.int .i64) (w0 := w0) (W := w) w0.heap.size rfl (.tmp 13) (.tmp 15) 43 2 (.int .i64 0) 8 rfl Tryz.underlying43 info2 rfl (by decide) (by decide) (.slice A l.length cc) l n [.int .i64 n] (fun _ => True) (fun _ => False) rfl rfl rfl (fun _ hk => hk.elim) (fun _ _ => trivial) ?h1 ?h2 ?h3 ?h4 ?_; (case h1 => exact H.out.hr); (case h2 => exact H.out.hb); (case h3 => exact H.out.hb.size); (case h4 => omega); intro v1 w2 hr1 hb1 hg1 hat1; obtain ⟨A1, c1, rfl⟩ := Kd.R_slice hr1; have e4 : w2.cell? ⟨g, 41, none⟩ = some (.slice A l.length cc) := (blk_cell (blk_grown H.out.hg hg1 H.out.row) 41).trans rfl; have f4 : w2.frozen? ⟨g, 41, none⟩ = false := bfz (blk_grown H.out.hg hg1 H.out.row) 41))
 have H2 := am (H.out.grow hb1 hg1 hr1)
 have HO := am ((show Value.ownBlock (.slice A1 (l ++ [n]).length c1) = Value.ownBlock (.slice A l.length cc) ∨ _ from hat1))
 have HK := am ((Kept.of_grown hg1 (Kept.refl w (fun k => k = g ∨ k = gr ∨ (Value.slice A l.length cc).ownBlock = some k)) (fun k hk => .inl (.inr (.inr hk)))).setCell (p := ⟨g, 41, none⟩) (.inl (.inl rfl)) (.slice A1 (l ++ [n]).length c1))
 clear hr1 hb1 hg1 hat1 e4 f4 x41
 rw [show (l ++ [n]).length = l.length + 1 by simp] at H2 HO HK
 generalize w2.setCell ⟨g, 41, none⟩ (.slice A1 (l.length + 1) c1) = w3 at H2 HK ⊢
 obtain ⟨L, hL⟩ : ∃ L, L = l ++ [n] := ⟨_, rfl⟩
 have HLN := am (show l.length + 1 = L.length by rw [hL]; simp)
 rw [← hL] at H2
 rw [HLN.out] at H2 HO ⊢
 have hlen : L.length = l.length + 1 := HLN.out.symm
 have HL := am hL
 clear hL
 have x41 := bcv H2.out.hg 41 (.slice A1 L.length c1) rfl
 have h1 : decide ((L.length : Int) < 16) = false := decide_eq_false (by omega)
 clear hlen
 rw [← HL.out] at HM
 go_wp2_with fail
 refine (mean_Of.calls 20 A1 c1 L m em w3 (Kd.R_reads' H2.out.hr).2.2 (Kd.R_reads' H2.out.hr).2.1 HM.out).mono ?_
 rintro e w4 ⟨rfl, hd⟩
 replace H2 := am (H2.out.below hd.below)
 replace HK := am (HK.out.below hd.below)
 clear hd HM x41
 go_wp2_with fail
 refine (HAL.out w4 (HT.out.below H2.out.hb)).mono ?_
 rintro e w5 ⟨rfl, hb⟩
 replace H2 := am (H2.out.below hb)
 replace HK := am (HK.out.below hb)
 clear hb
 have x17 := bcv H2.out.hg 17 (.int .i64 c.s0) rfl
 have x18 := bcv H2.out.hg 18 (.int .i64 c.s1) rfl
 have x19 := bcv H2.out.hg 19 (.int .i64 c.s2) rfl
 go_wp2_with fail
 refine (diag_any w5 _ _ _).mono ?_
 rintro e w6 ⟨rfl, hb⟩
 replace H2 := am (H2.out.below hb)
 replace HK := am (HK.out.below hb)
 clear hb x17 x18 x19
 have y0 := bcv H2.out.hg 0 (.int .i64 s.x0) rfl
 have f0 := bfz H2.out.hg 0
 have y1 := bcv H2.out.hg 1 (.int .i64 s.x1) rfl
 have f1 := bfz H2.out.hg 1
 have y2 := bcv H2.out.hg 2 (.int .i64 s.x2) rfl
 have f2 := bfz H2.out.hg 2
 have y3 := bcv H2.out.hg 3 (.int .i64 s.p0) rfl
 have f3 := bfz H2.out.hg 3
 have y4 := bcv H2.out.hg 4 (.int .i64 s.p1) rfl
 have f4 := bfz H2.out.hg 4
 have y5 := bcv H2.out.hg 5 (.int .i64 s.p2) rfl
 have f5 := bfz H2.out.hg 5
 have y6 := bcv H2.out.hg 6 (.int .i64 s.p3) rfl
 have f6 := bfz H2.out.hg 6
 have y7 := bcv H2.out.hg 7 (.int .i64 s.p4) rfl
 have f7 := bfz H2.out.hg 7
 have y8 := bcv H2.out.hg 8 (.int .i64 s.p5) rfl
 have f8 := bfz H2.out.hg 8
 go_upto_region 7 with fail
 have q := H2.out.guess ⟨z, 0, 0, c.s0, 0, 0, c.s1, 0, c.s2⟩
 have qk := (((((((((HK.out.setCell (p := ⟨g, 0, none⟩) (.inl (.inl rfl)) (.int .i64 z)).setCell (p := ⟨g, 1, none⟩) (.inl (.inl rfl)) (.int .i64 0)).setCell (p := ⟨g, 2, none⟩) (.inl (.inl rfl)) (.int .i64 0)).setCell (p := ⟨g, 3, none⟩) (.inl (.inl rfl)) (.int .i64 c.s0)).setCell (p := ⟨g, 4, none⟩) (.inl (.inl rfl)) (.int .i64 0)).setCell (p := ⟨g, 5, none⟩) (.inl (.inl rfl)) (.int .i64 0)).setCell (p := ⟨g, 6, none⟩) (.inl (.inl rfl)) (.int .i64 c.s1)).setCell (p := ⟨g, 7, none⟩) (.inl (.inl rfl)) (.int .i64 0)).setCell (p := ⟨g, 8, none⟩) (.inl (.inl rfl)) (.int .i64 c.s2))
 clear H2 HK y0 f0 y1 f1 y2 f2 y3 f3 y4 f4 y5 f5 y6 f6 y7 f7 y8 f8
 generalize hw7 : (((((((((w6.setCell ⟨g, 0, none⟩ (.int .i64 z)).setCell ⟨g, 1, none⟩ (.int .i64 0)).setCell ⟨g, 2, none⟩ (.int .i64 0)).setCell ⟨g, 3, none⟩ (.int .i64 c.s0)).setCell ⟨g, 4, none⟩ (.int .i64 0)).setCell ⟨g, 5, none⟩ (.int .i64 0)).setCell ⟨g, 6, none⟩ (.int .i64 c.s1)).setCell ⟨g, 7, none⟩ (.int .i64 0)).setCell ⟨g, 8, none⟩ (.int .i64 c.s2)) = w7 at q qk ⊢
 clear hw7
 have HK := am qk
 clear qk
 have H2 := am q
 clear q
 have x42 := bcv H2.out.hg 42 (.pointer (some ⟨gr, 0, none⟩)) rfl
 go_wp2_with fail
 refine (HSE.out w7 H2.out.hi H2.out.hb).mono ?_
 rintro e w8 ⟨rfl, hI, hB, hk⟩
 have H3 := am (H2.out.ground hI hB hk)
 replace HK := am (HK.out.of_keep hk (.inl (.inr (.inl rfl))))
 clear hI hB hk H2
 go_wp2_with fail
 go_ret
 refine ⟨.slice A1 L.length c1, rfl, ?_, HK.out, OwT.of HO.out⟩
 rw [← HL.out]
 exact H3.out
end Go.Proofs.YtpdahkgandaabaaGreatDoor.Ch
