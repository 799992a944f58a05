/- A new channel (layer 20): its walk. -/
import Derived.Test.YtpdahkgandaabaaGreatDoorFeed
import Derived.Test.YtpdahkgandaabaaGreatDoorBase
namespace Go.Proofs.YtpdahkgandaabaaGreatDoor.Ch
open Go.RowKit Go.Proofs.YtpdahkgandaabaaGreatDoorW.PrintWords Go.Proofs.YtpdahkgandaabaaGreatDoorW.PrintLast Go.Proofs.YtpdahkgandaabaaGreatDoorW.PrintMore Go.Proofs.YtpdahkgandaabaaGreatDoor.PTopNames
set_option linter.unusedVariables false
set_option linter.unusedSimpArgs false

/-- A state and its doubt. -/
structure Gs where
  (x0 x1 x2 p0 p1 p2 p3 p4 p5 : Int)
/-- A channel's cells. -/
def chanV (s : Gs) (c : Cf) (f gr : Nat) (v : Value) (mode since : Int) : Array Value := #[.int .i64 s.x0, .int .i64 s.x1, .int .i64 s.x2, .int .i64 s.p0, .int .i64 s.p1, .int .i64 s.p2, .int .i64 s.p3, .int .i64 s.p4, .int .i64 s.p5, .int .i64 c.q0, .int .i64 c.q1, .int .i64 c.q2, .int .i64 c.l0, .int .i64 c.l1, .int .i64 c.l2, .int .i64 c.r, .int .i64 c.rg, .int .i64 c.s0, .int .i64 c.s1, .int .i64 c.s2, .int .i64 c.f0, .int .i64 c.f1, .int .i64 c.f2, .int .i64 c.c0, .int .i64 c.c1, .int .i64 c.c2, .int .i64 c.b0, .int .i64 c.b1, .int .i64 c.b2, .int .i64 c.g, .int .i64 c.t0, .int .i64 c.t1, .int .i64 c.t2, .int .i64 c.sc, .int .i64 c.rest, .int .i64 c.clip, .int .i64 c.hold, .int .i64 c.coast, .int .i64 c.out, .int .i64 c.band, .pointer (some ⟨f, 0, none⟩), v, .pointer (some ⟨gr, 0, none⟩), .int .i64 mode, .int .i64 since]
theorem chanV_conf (s : Gs) (c : Cf) (f gr : Nat) (v : Value) (mode since : Int) : (chanV s c f gr v mode since).extract 9 40 = c.v := by kernel_rfl
theorem mx_zero (a : Int) : mx a 0 = if a < 0 then 0 else a := rfl
theorem exec_load_part {P : Program} {op : Oper} {a : Act} {w : World} (ty : TypeId) (x : Operand) (ho : op.op = .load ty x)
    (b o n : Nat) (hx : a.eval x = .pointer (some ⟨b, o, none⟩)) (C cs : Array Value) (t : TypeId) (hg : w.heap[b]? = some (.cells C t (0, 0))) (hc : C.extract o (o + n) = cs) (d : TypeDesc)
    (hu : P.underlying ty = some d) (hd : d.isRow = true) (hi : (P.info? ty).map (·.size) = some cs.toList.length) :
    (execOp a.eval op).run P w = .ok (.value (.agg cs)) w := by
  subst hc
  have hl := run_loadVar_mid w b o ty _ d (World.rangeAt_of_block hg o n) hu hd hi
  rw [Array.toArray_toList] at hl
  unfold execOp
  simp only [ho, hx, Instr.loadAt, Instr.sureAddr, Sem.run_bind, Sem.run_pure, Result.andThen_ok, hl]
set_option maxRecDepth 100000 in
set_option maxHeartbeats 4000000 in
theorem new_any (w : World) (c : Cf) (hck : checkR c = 0) :
    Calls Tryz.prog 9 #[.agg c.v] w fun e w' => ∃ g f gr : Nat, e = .returned (.tuple #[.pointer (some ⟨g, 0, none⟩), .int .i64 0]) ∧ w'.heap[g]? = some (.cells (chanV ⟨0, 0, 0, 0, 0, 0, 0, 0, 0⟩ c f gr (.slice none 0 0) 0 0) 56 (0, 0)) ∧
      w'.heap[f]? = some (.cells (feedV 0 0 c) 101 (0, 0)) ∧ IsS93 w w' gr (mx c.band 0) c.r c.rg 0 false ∧ w.heap.size ≤ g ∧ w.heap.size ≤ f ∧ Below w.heap.size w w' := by
  have HC := Aside0.mk hck
  clear hck
  go_enter Tryz.func9, Tryz.ntmps9
  go_upto_region 1 with fail
  have HX := Aside0.mk (blk_new w (.cells c.v 28))
  have HB := Aside0.mk (below_alloc (Below.refl w.heap.size w) (.cells c.v 28))
  generalize w.alloc (.cells c.v 28) = w1 at HX HB ⊢
  obtain ⟨b, hb⟩ : ∃ b, b = w.heap.size := ⟨_, rfl⟩
  rw [← hb] at HX ⊢
  clear hb
  iterate 2 go_step
  refine wp_load_row 28 (.tmp 1) rfl b rfl 28 c.v (0, 0) _ HX.out Tryz.underlying28 rfl (by kernel_rfl) ?_
  go_wp2_with fail
  refine (anew_any w1 c HC.out).mono ?_
  rintro e w2 ⟨f, rfl, hF, hf, hb⟩
  replace HX := Aside0.mk (blk_below HX.out hb)
  have HF := Aside0.mk hF
  have HG := Aside0.mk (Nat.le_trans HB.out.size hf)
  replace HB := Aside0.mk (below_step HB.out hb)
  clear hF hf hb
  go_upto_region 4 with fail
  refine start_ (n := 13) (S := fun w' => w'.heap[b]? = some (.cells c.v 28 (0, 0))) (ds := []) #[false, false, false, false, false, false, false, false, false, false, false, false, false] (by kernel_rfl) rfl rfl HX.out (fun hHeld => ?_)
  replace HX := Aside0.mk (blk_drew HX.out)
  replace HF := Aside0.mk (blk_drew HF.out)
  replace HB := Aside0.mk (below_drew HB.out)
  generalize w2.drew = wd at HX HF HB hHeld ⊢
  refine take_ (i := 0) (N := (some 14)) (v := (.agg c.v)) (a' := ?_) #[true, false, false, false, false, false, false, false, false, false, false, false, false] rfl rfl (by kernel_rfl) (fun _ _ _ h => h) (Or.inl ⟨by rfl, ?_⟩) hHeld ?_ ?_
  · rintro w' s0
    exact exec_load_part 28 (.tmp 1) rfl b 0 31 rfl c.v c.v 28 s0 (by kernel_rfl) _ Tryz.underlying28 rfl (by kernel_rfl)
  rotate_left
  · simp only [Act.put, List.setIfInBounds_toArray, List.set_cons_zero, List.set_cons_succ, i64_w, i32_w]
    rfl
  refine pure_ (i := 1) (N := (some 15)) (v := ?_) (a' := ?_) #[true, true, false, false, false, false, false, false, false, false, false, false, false] rfl rfl (by kernel_rfl) (fun _ _ _ h => h) (Or.inl ⟨by rfl, ?_⟩) ?_ ?_
  rotate_left
  · intro w'
    go_simp
    with_reducible rfl
  rotate_left
  · simp only [Act.put, List.setIfInBounds_toArray, List.set_cons_zero, List.set_cons_succ, i64_w, i32_w]
    rfl
  refine pure_ (i := 2) (N := (some 16)) (v := ?_) (a' := ?_) #[true, true, true, false, false, false, false, false, false, false, false, false, false] rfl rfl (by kernel_rfl) (fun _ _ _ h => h) (Or.inl ⟨by rfl, ?_⟩) ?_ ?_
  rotate_left
  · intro w'
    go_simp
    with_reducible rfl
  rotate_left
  · simp only [Act.put, List.setIfInBounds_toArray, List.set_cons_zero, List.set_cons_succ, i64_w, i32_w]
    rfl
  refine take_ (i := 3) (N := (some 17)) (v := ?_) (a' := ?_) #[true, true, true, true, false, false, false, false, false, false, false, false, false] rfl rfl (by kernel_rfl) (fun _ _ _ h => h) (Or.inl ⟨by rfl, ?_⟩) hHeld ?_ ?_
  rotate_left
  · rintro w' s0
    have x := (blk_cell s0 30).trans (show _ = some (.int .i64 c.band) from rfl)
    go_simp
    with_reducible rfl
  rotate_left
  · simp only [Act.put, List.setIfInBounds_toArray, List.set_cons_zero, List.set_cons_succ, i64_w, i32_w]
    rfl
  refine pure_ (i := 4) (N := (some 18)) (v := ?_) (a' := ?_) #[true, true, true, true, true, false, false, false, false, false, false, false, false] rfl rfl (by kernel_rfl) (fun _ _ _ h => h) (Or.inl ⟨by rfl, ?_⟩) ?_ ?_
  rotate_left
  · intro w'
    go_simp
    with_reducible rfl
  rotate_left
  · simp only [Act.put, List.setIfInBounds_toArray, List.set_cons_zero, List.set_cons_succ, i64_w, i32_w]
    rfl
  refine take_ (i := 5) (N := (some 19)) (v := ?_) (a' := ?_) #[true, true, true, true, true, true, false, false, false, false, false, false, false] rfl rfl (by kernel_rfl) (fun _ _ _ h => h) (Or.inl ⟨by rfl, ?_⟩) hHeld ?_ ?_
  rotate_left
  · rintro w' s0
    have x := (blk_cell s0 6).trans (show _ = some (.int .i64 c.r) from rfl)
    go_simp
    with_reducible rfl
  rotate_left
  · simp only [Act.put, List.setIfInBounds_toArray, List.set_cons_zero, List.set_cons_succ, i64_w, i32_w]
    rfl
  refine pure_ (i := 6) (N := (some 20)) (v := ?_) (a' := ?_) #[true, true, true, true, true, true, true, false, false, false, false, false, false] rfl rfl (by kernel_rfl) (fun _ _ _ h => h) (Or.inl ⟨by rfl, ?_⟩) ?_ ?_
  rotate_left
  · intro w'
    go_simp
    with_reducible rfl
  rotate_left
  · simp only [Act.put, List.setIfInBounds_toArray, List.set_cons_zero, List.set_cons_succ, i64_w, i32_w]
    rfl
  refine take_ (i := 7) (N := (some 21)) (v := ?_) (a' := ?_) #[true, true, true, true, true, true, true, true, false, false, false, false, false] rfl rfl (by kernel_rfl) (fun _ _ _ h => h) (Or.inl ⟨by rfl, ?_⟩) hHeld ?_ ?_
  rotate_left
  · rintro w' s0
    have x := (blk_cell s0 7).trans (show _ = some (.int .i64 c.rg) from rfl)
    go_simp
    with_reducible rfl
  rotate_left
  · simp only [Act.put, List.setIfInBounds_toArray, List.set_cons_zero, List.set_cons_succ, i64_w, i32_w]
    rfl
  refine one_ (i := 8) (N := (some 22)) #[true, true, true, true, true, true, true, true, true, false, false, false, false] rfl rfl (by kernel_rfl) (by decide) (fun K hK => ?_)
  refine goes_ Tryz.func21 (by kernel_rfl) rfl #[.int .i64 c.band, .int .i64 c.r, .int .i64 c.rg] (by rfl) rfl rfl (by (try simp only [List.map_toArray, List.map_cons, List.map_nil]); first | done | rfl) ?_
  refine (ground_New.calls c.band c.r c.rg (mx c.band 0) c.r c.rg 0 false w wd HB.out rfl).mono ?_
  rintro e we ⟨gr, rfl, hI, hB, hb⟩
  have HI := Aside0.mk hI
  replace HX := Aside0.mk (blk_below HX.out hb)
  replace HF := Aside0.mk (blk_below HF.out hb)
  replace HB := Aside0.mk hB
  clear hI hB hb hHeld
  refine ⟨_, rfl, ?_⟩
  refine hK.out _ _ HX.out (fun hHeld => ?_)
  clear hK K
  refine norm_ (a' := ?_) ?_ ?_
  rotate_left
  · show Act.put _ (some 22) _ = _
    simp only [Act.put, List.setIfInBounds_toArray, List.set_cons_zero, List.set_cons_succ, i64_w, i32_w]
    rfl
  refine pure_ (i := 9) (N := (some 23)) (v := (.agg (chanV ⟨0, 0, 0, 0, 0, 0, 0, 0, 0⟩ c f gr (.slice none 0 0) 0 0))) (a' := ?_) #[true, true, true, true, true, true, true, true, true, true, false, false, false] rfl rfl (by kernel_rfl) (fun _ _ _ h => h) (Or.inl ⟨by rfl, ?_⟩) ?_ ?_
  · intro w'
    kernel_rfl
  rotate_left
  · simp only [Act.put, List.setIfInBounds_toArray, List.set_cons_zero, List.set_cons_succ, i64_w, i32_w]
    rfl
  refine one_ (i := 10) (N := (some 24)) #[true, true, true, true, true, true, true, true, true, true, true, false, false] rfl rfl (by kernel_rfl) (by decide) (fun K hK => ?_)
  refine event_step (v := .pointer (some ⟨we.heap.size, 0, none⟩)) (w1 := we.alloc (.cells (chanV ⟨0, 0, 0, 0, 0, 0, 0, 0, 0⟩ c f gr (.slice none 0 0) 0 0) 56)) (by rfl) (by first | kernel_rfl | (go_simp; done) | (go_simp; rfl)) ?_
  have HGX := Aside0.mk (blk_new we (.cells (chanV ⟨0, 0, 0, 0, 0, 0, 0, 0, 0⟩ c f gr (.slice none 0 0) 0 0) 56))
  have HGG := Aside0.mk HB.out.size
  replace HX := Aside0.mk (blk_alloc HX.out (.cells (chanV ⟨0, 0, 0, 0, 0, 0, 0, 0, 0⟩ c f gr (.slice none 0 0) 0 0) 56))
  replace HF := Aside0.mk (blk_alloc HF.out (.cells (chanV ⟨0, 0, 0, 0, 0, 0, 0, 0, 0⟩ c f gr (.slice none 0 0) 0 0) 56))
  replace HI := Aside0.mk (HI.out.alloc (.cells (chanV ⟨0, 0, 0, 0, 0, 0, 0, 0, 0⟩ c f gr (.slice none 0 0) 0 0) 56))
  replace HB := Aside0.mk (below_alloc HB.out (.cells (chanV ⟨0, 0, 0, 0, 0, 0, 0, 0, 0⟩ c f gr (.slice none 0 0) 0 0) 56))
  clear hHeld
  generalize we.alloc (.cells (chanV ⟨0, 0, 0, 0, 0, 0, 0, 0, 0⟩ c f gr (.slice none 0 0) 0 0) 56) = wf at HX HF HI HB HGX ⊢
  generalize we.heap.size = g at HGX HGG ⊢
  refine hK.out _ _ HX.out (fun hHeld => ?_)
  clear hK K
  refine norm_ (a' := ?_) ?_ ?_
  rotate_left
  · show Act.put _ (some 24) _ = _
    simp only [Act.put, List.setIfInBounds_toArray, List.set_cons_zero, List.set_cons_succ, i64_w, i32_w]
    rfl
  refine pure_ (i := 11) (N := (some 2)) (v := ?_) (a' := ?_) #[true, true, true, true, true, true, true, true, true, true, true, true, false] rfl rfl (by kernel_rfl) (fun _ _ _ h => h) (Or.inl ⟨by rfl, ?_⟩) ?_ ?_
  rotate_left
  · intro w'
    go_simp
    with_reducible rfl
  rotate_left
  · simp only [Act.put, List.setIfInBounds_toArray, List.set_cons_zero, List.set_cons_succ, i64_w, i32_w]
    rfl
  refine pure_ (i := 12) (N := (some 3)) (v := ?_) (a' := ?_) #[true, true, true, true, true, true, true, true, true, true, true, true, true] rfl rfl (by kernel_rfl) (fun _ _ _ h => h) (Or.inl ⟨by rfl, ?_⟩) ?_ ?_
  rotate_left
  · intro w'
    go_simp
    with_reducible rfl
  rotate_left
  · simp only [Act.put, List.setIfInBounds_toArray, List.set_cons_zero, List.set_cons_succ, i64_w, i32_w]
    rfl
  refine done_ (by kernel_rfl) ?_
  go_wp2_with fail
  go_ret2
  exact ⟨g, f, gr, rfl, HGX.out, HF.out, HI.out, HGG.out, HG.out, HB.out⟩
end Go.Proofs.YtpdahkgandaabaaGreatDoor.Ch
