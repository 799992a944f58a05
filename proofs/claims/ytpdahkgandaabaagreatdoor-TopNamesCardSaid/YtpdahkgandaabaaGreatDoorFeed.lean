/- Thrusts, one behind the other (layer 15): the walks of Thrust, of a new feed, and of a count taken in. -/
import Derived.Test.YtpdahkgandaabaaGreatDoorCheck
namespace Go.Proofs.YtpdahkgandaabaaGreatDoor.Ch
open Go.RowKit Go.Proofs.YtpdahkgandaabaaGreatDoorW.PrintWords Go.Proofs.YtpdahkgandaabaaGreatDoorW.PrintLast Go.Proofs.YtpdahkgandaabaaGreatDoorW.PrintMore Go.Proofs.YtpdahkgandaabaaGreatDoor.PTopNames
set_option linter.unusedVariables false
set_option linter.unusedSimpArgs false

/-- Whether a count is clipped. -/
def clipped (c : Cf) (a : Int) : Bool := decide (a ≤ wrap64 (-c.clip)) || decide (c.clip ≤ a)
def thrustOf (c : Cf) (a : Int) : Int := wrap64 (wrap64 (a - c.rest) * c.sc)
def thV (c : Cf) (a : Int) : Int := if clipped c a then 0 else thrustOf c a
def thE (c : Cf) (a : Int) : Int := if clipped c a then 2 else 0
set_option maxRecDepth 100000 in
set_option maxHeartbeats 4000000 in
theorem thrust_any (w : World) (c : Cf) (a : Int) (hck : checkR c = 0) :
    Calls Tryz.prog 62 #[.agg c.v, .int .i64 a] w fun e w' => e = .returned (.tuple #[.int .i64 (thV c a), .int .i64 (thE c a)]) ∧ Below w.heap.size w w' := by
  have HC := Aside0.mk hck
  clear hck
  go_enter Tryz.func62, Tryz.ntmps62
  go_upto_region 1 with fail
  have HX := Aside0.mk (blk_new w (.cells c.v 28))
  have HB := Aside0.mk (below_alloc (Below.refl w.heap.size w) (.cells c.v 28))
  generalize w.alloc (.cells c.v 28) = w1 at HX HB ⊢
  obtain ⟨b, hb⟩ : ∃ b, b = w.heap.size := ⟨_, rfl⟩
  rw [← hb] at HX ⊢
  clear hb
  iterate 2 go_step
  refine wp_load_row 28 (.tmp 2) rfl b rfl 28 c.v (0, 0) _ HX.out Tryz.underlying28 rfl (by kernel_rfl) ?_
  go_wp2_with fail
  refine (check_any w1 c).mono ?_
  rintro e w2 ⟨rfl, hb⟩
  rw [HC.out]
  replace HX := Aside0.mk (blk_below HX.out hb)
  replace HB := Aside0.mk (below_step HB.out hb)
  clear hb
  have x26 : w2.cell? ⟨b, 26, none⟩ = some (.int .i64 c.clip) := (blk_cell HX.out 26).trans rfl
  have x25 : w2.cell? ⟨b, 25, none⟩ = some (.int .i64 c.rest) := (blk_cell HX.out 25).trans rfl
  have x24 : w2.cell? ⟨b, 24, none⟩ = some (.int .i64 c.sc) := (blk_cell HX.out 24).trans rfl
  by_cases h1 : a ≤ wrap64 (-c.clip)
  · have d1 : decide (a ≤ wrap64 (-c.clip)) = true := decide_eq_true h1
    have HQ := Aside0.mk (show clipped c a = true by simp [clipped, h1])
    go_wp2_with fail
    go_ret2
    exact ⟨by simp [thV, thE, HQ.out], HB.out⟩
  · have d1 : decide (a ≤ wrap64 (-c.clip)) = false := decide_eq_false h1
    by_cases h2 : c.clip ≤ a
    · have d2 : decide (c.clip ≤ a) = true := decide_eq_true h2
      have HQ := Aside0.mk (show clipped c a = true by simp [clipped, h2])
      go_wp2_with fail
      go_ret2
      exact ⟨by simp [thV, thE, HQ.out], HB.out⟩
    · have d2 : decide (c.clip ≤ a) = false := decide_eq_false h2
      have HQ := Aside0.mk (show clipped c a = false by simp only [clipped, d1, d2]; rfl)
      go_wp2_with fail
      go_ret2
      exact ⟨by simp [thV, thE, HQ.out, thrustOf], HB.out⟩

/-- A feed's cells: the last thrust, how many in a row were clipped, the configuration. -/
def feedV (last run : Int) (c : Cf) : Array Value := #[.int .i64 last, .int .i64 run, .int .i64 c.q0, .int .i64 c.q1, .int .i64 c.q2, .int .i64 c.l0, .int .i64 c.l1, .int .i64 c.l2, .int .i64 c.r, .int .i64 c.rg, .int .i64 c.s0, .int .i64 c.s1, .int .i64 c.s2, .int .i64 c.f0, .int .i64 c.f1, .int .i64 c.f2, .int .i64 c.c0, .int .i64 c.c1, .int .i64 c.c2, .int .i64 c.b0, .int .i64 c.b1, .int .i64 c.b2, .int .i64 c.g, .int .i64 c.t0, .int .i64 c.t1, .int .i64 c.t2, .int .i64 c.sc, .int .i64 c.rest, .int .i64 c.clip, .int .i64 c.hold, .int .i64 c.coast, .int .i64 c.out, .int .i64 c.band]
theorem feedV_conf (last run : Int) (c : Cf) : (feedV last run c).extract 2 33 = c.v := by kernel_rfl
set_option maxRecDepth 100000 in
set_option maxHeartbeats 4000000 in
theorem anew_any (w : World) (c : Cf) (hck : checkR c = 0) :
    Calls Tryz.prog 20 #[.agg c.v] w fun e w' => ∃ f : Nat, e = .returned (.tuple #[.pointer (some ⟨f, 0, none⟩), .int .i64 0]) ∧ w'.heap[f]? = some (.cells (feedV 0 0 c) 101 (0, 0)) ∧ w.heap.size ≤ f ∧ Below w.heap.size w w' := by
  have HC := Aside0.mk hck
  clear hck
  go_enter Tryz.func20, Tryz.ntmps20
  go_upto_region 1 with fail
  have HX := Aside0.mk (blk_new w (.cells c.v 28))
  have HB := Aside0.mk (below_alloc (Below.refl w.heap.size w) (.cells c.v 28))
  generalize w.alloc (.cells c.v 28) = w1 at HX HB ⊢
  obtain ⟨b, hb⟩ : ∃ b, b = w.heap.size := ⟨_, rfl⟩
  rw [← hb] at HX ⊢
  clear hb
  iterate 2 go_step
  refine wp_load_row 28 (.tmp 1) rfl b rfl 28 c.v (0, 0) _ HX.out Tryz.underlying28 rfl (by kernel_rfl) ?_
  go_wp2_with fail
  refine (check_any w1 c).mono ?_
  rintro e w2 ⟨rfl, hb⟩
  rw [HC.out]
  replace HX := Aside0.mk (blk_below HX.out hb)
  replace HB := Aside0.mk (below_step HB.out hb)
  clear hb
  go_upto_region 3 with fail
  iterate 2 go_step
  refine wp_load_row 28 (.tmp 1) rfl b rfl 28 c.v (0, 0) _ HX.out Tryz.underlying28 rfl (by kernel_rfl) ?_
  unfold Cf.v
  go_wp2_with fail
  go_ret2
  exact ⟨w2.heap.size, rfl, blk_new w2 (.cells (feedV 0 0 c) 101), HB.out.size, below_alloc HB.out _⟩

theorem wp_load_part {P : Program} {op : Oper} {a : Act} {w : World} {K : Act → World → Prop} {Q : Exit → Act → World → Prop} (ty : TypeId) (x : Operand) (ho : op.op = .load ty x)
    (b o n : Nat) (hx : a.eval x = .pointer (some ⟨b, o, none⟩)) (C cs : Array Value) (t : TypeId) (hg : w.heap[b]? = some (.cells C t (0, 0))) (hc : C.extract o (o + n) = cs) (d : TypeDesc)
    (hu : P.underlying ty = some d) (hd : d.isRow = true) (hi : (P.info? ty).map (·.size) = some cs.toList.length)
    (h : K (a.put op.dst (.agg cs)) w) : op.wp P a w K Q := by
  subst hc
  refine wp_load_mid ty x ho b o hx _ d (World.rangeAt_of_block hg o n) hu hd hi ?_
  rw [Array.toArray_toList]
  exact h
/-- What a feed tells of a count: the thrust, and whether it is lost; what it keeps. -/
def inT (c : Cf) (last a : Int) : Int := if clipped c a then last else thrustOf c a
def inRun (c : Cf) (run a : Int) : Int := if clipped c a then wrap64 (run + 1) else 0
def inLost (c : Cf) (run a : Int) : Bool := clipped c a && decide (c.hold < wrap64 (run + 1))
set_option maxRecDepth 100000 in
set_option maxHeartbeats 4000000 in
theorem in_any (w0 w : World) (f : Nat) (c : Cf) (last run a : Int) (hF : w.heap[f]? = some (.cells (feedV last run c) 101 (0, 0))) (hf : w0.heap.size ≤ f) (hB : Below w0.heap.size w0 w) (hck : checkR c = 0) :
    Calls Tryz.prog 22 #[.pointer (some ⟨f, 0, none⟩), .int .i64 a] w fun e w' => e = .returned (.tuple #[.int .i64 (inT c last a), .bool (clipped c a), .bool (inLost c run a)]) ∧
      w'.heap[f]? = some (.cells (feedV (inT c last a) (inRun c run a) c) 101 (0, 0)) ∧ Below w0.heap.size w0 w' ∧ KeepBut w w' f none := by
  have HF := Aside0.mk hF
  have HB := Aside0.mk hB
  have HC := Aside0.mk hck
  clear hF hB hck
  go_enter Tryz.func22, Tryz.ntmps22
  go_upto_region 1 with fail
  iterate 11 go_step
  refine wp_load_part 28 (.tmp 12) rfl f 2 31 rfl (feedV last run c) c.v 101 HF.out (feedV_conf last run c) _ Tryz.underlying28 rfl (by kernel_rfl) ?_
  go_wp2_with fail
  refine (thrust_any w c a HC.out).mono ?_
  rintro e w1 ⟨rfl, hb⟩
  have HK := Aside0.mk (KeepBut.of_below hb f none)
  replace HF := Aside0.mk (blk_below HF.out hb)
  replace HB := Aside0.mk (below_step HB.out hb)
  clear hb
  have y0 : w1.cell? ⟨f, 0, none⟩ = some (.int .i64 last) := (blk_cell HF.out 0).trans rfl
  have y1 : w1.cell? ⟨f, 1, none⟩ = some (.int .i64 run) := (blk_cell HF.out 1).trans rfl
  have f0 := blk_frozen HF.out 0
  have f1 := blk_frozen HF.out 1
  cases hq : clipped c a with
  | false =>
    have HQ := Aside0.mk hq
    have HV := Aside0.mk (show thV c a = thrustOf c a by simp [thV, hq])
    have HE := Aside0.mk (show thE c a = 0 by simp [thE, hq])
    have HT := Aside0.mk (show inT c last a = thrustOf c a by simp [inT, hq])
    have HN := Aside0.mk (show inRun c run a = 0 by simp [inRun, hq])
    have HL := Aside0.mk (show inLost c run a = false by simp [inLost, hq])
    clear hq
    rw [HV.out, HE.out]
    go_wp2_with fail
    refine bodyPost_ret (results_tmp3 rfl _ _ _) rfl ?_
    refine ⟨by rw [HT.out, HL.out, HQ.out]; rfl, ?_, (HB.out.setCell (p := ⟨f, 0, none⟩) hf _).setCell (p := ⟨f, 1, none⟩) hf _, (HK.out.set_ 0 _).set_ 1 _⟩
    rw [HT.out, HN.out]
    exact (blk_set (blk_set HF.out 0 _) 1 _).trans (by kernel_rfl)
  | true =>
    have HQ := Aside0.mk hq
    have HV := Aside0.mk (show thV c a = 0 by simp [thV, hq])
    have HE := Aside0.mk (show thE c a = 2 by simp [thE, hq])
    have HT := Aside0.mk (show inT c last a = last by simp [inT, hq])
    have HN := Aside0.mk (show inRun c run a = wrap64 (run + 1) by simp [inRun, hq])
    have HL := Aside0.mk (show inLost c run a = decide (c.hold < wrap64 (run + 1)) by simp [inLost, hq])
    clear hq
    rw [HV.out, HE.out]
    go_upto_region 6 with fail
    have q := (blk_set HF.out 1 (.int .i64 (wrap64 (run + 1)))).trans (show _ = some (Obj.cells (feedV last (wrap64 (run + 1)) c) 101 (0, 0)) by kernel_rfl)
    replace HF := Aside0.mk q
    replace HB := Aside0.mk (HB.out.setCell (p := ⟨f, 1, none⟩) hf (.int .i64 (wrap64 (run + 1))))
    replace HK := Aside0.mk (HK.out.set_ 1 (.int .i64 (wrap64 (run + 1))))
    clear q y0 y1 f0 f1
    generalize w1.setCell ⟨f, 1, none⟩ (.int .i64 (wrap64 (run + 1))) = w2 at HF HB HK ⊢
    have y0 : w2.cell? ⟨f, 0, none⟩ = some (.int .i64 last) := (blk_cell HF.out 0).trans rfl
    have y1 : w2.cell? ⟨f, 1, none⟩ = some (.int .i64 (wrap64 (run + 1))) := (blk_cell HF.out 1).trans rfl
    have y29 : w2.cell? ⟨f, 29, none⟩ = some (.int .i64 c.hold) := (blk_cell HF.out 29).trans rfl
    go_quiet (fail)
    go_wp2_with fail
    refine bodyPost_ret (results_tmp3 rfl _ _ _) rfl ?_
    refine ⟨by rw [HT.out, HL.out, HQ.out]; rfl, ?_, pw_below_drewN HB.out _, HK.out⟩
    rw [HT.out, HN.out]
    exact HF.out
end Go.Proofs.YtpdahkgandaabaaGreatDoor.Ch
