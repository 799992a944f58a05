/- A tick taken while the channel seeks first samples (layer 20): the walk of Step. -/
import Derived.Test.YtpdahkgandaabaaGreatDoorSeek
import Derived.Test.YtpdahkgandaabaaGreatDoorBase4
import Derived.Test.YtpdahkgandaabaaGreatDoorOut0
namespace Go.Proofs.YtpdahkgandaabaaGreatDoor.Ch
open Go.RowKit Go.Proofs.YtpdahkgandaabaaGreatDoorW.PrintWords Go.Proofs.YtpdahkgandaabaaGreatDoorW.PrintLast Go.Proofs.YtpdahkgandaabaaGreatDoorW.PrintMore Go.Proofs.YtpdahkgandaabaaGreatDoor.PTopNames Go.Proofs.YtpdahkgandaabaaGreatDoor.Al
set_option linter.unusedVariables false
set_option linter.unusedSimpArgs false

/-- What is told, in cells. -/
def toldV (m : Int) (va ac re he gr : Bool) (al sp bi : Int) : Array Value := #[.int .i64 m, .bool va, .bool ac, .bool re, .bool he, .bool gr, .int .i64 al, .int .i64 sp, .int .i64 bi]
theorem blocks3 (w : World) (x y z : Array Value) (t s r : TypeId) : (((w.alloc (.cells x t)).alloc (.cells y s)).alloc (.cells z r)).heap[w.heap.size]? = some (.cells x t (0, 0)) ∧ (((w.alloc (.cells x t)).alloc (.cells y s)).alloc (.cells z r)).heap[w.heap.size + 1]? = some (.cells y s (0, 0)) ∧
    (((w.alloc (.cells x t)).alloc (.cells y s)).alloc (.cells z r)).heap[w.heap.size + 1 + 1]? = some (.cells z r (0, 0)) ∧ Below w.heap.size w (((w.alloc (.cells x t)).alloc (.cells y s)).alloc (.cells z r)) := by
  obtain ⟨h1, h2, h3⟩ := blocks2 w x y t s
  have h := blk_new ((w.alloc (.cells x t)).alloc (.cells y s)) (.cells z r)
  rw [size1, size1] at h
  exact ⟨blk_alloc h1 _, blk_alloc h2 _, h, below_alloc h3 _⟩
section
variable {w0 W : World} {g f gr : Nat} {s : Gs} {c : Cf} {v : Value} {mode since last run band noise rough count : Int} {known : Bool} {l : List Int}
/-- A store into a block of what is told. -/
theorem Chan.far (h : Chan w0 W g f gr s c v mode since last run band noise rough count known l) {b : Nat} {cs : Array Value} (hb : W.heap[b]? = some (.cells cs 39 (0, 0))) (b0 : w0.heap.size ≤ b) (i : Nat) (u : Value) :
    Chan w0 (W.setCell ⟨b, i, none⟩ u) g f gr s c v mode since last run band noise rough count known l :=
  ⟨blk_far h.hg (p := ⟨b, i, none⟩) (blk_ne h.hg hb (by decide)) u, blk_far h.hf (p := ⟨b, i, none⟩) (blk_ne h.hf hb (by decide)) u, h.hi.far (p := ⟨b, i, none⟩) (h.hi.ne_blk hb (by decide)) u,
    Kd.R_mono (Kd.R_far (p := ⟨b, i, none⟩) (Kd.R_tight rfl h.hr) (fun k hk e => (Kd.R_ne h.hr hb (by decide)) (by rw [← hk, e])) _) (fun _ _ => trivial), h.g0, h.f0, h.hb.setCell (p := ⟨b, i, none⟩) b0 _⟩
end
theorem agood_f (c : Int) : atmos_Good.f c = some (good c) := by
  unfold atmos_Good.f good
  by_cases h1 : 90528 ≤ c
  · rw [if_pos (by omega), decide_eq_true h1, Bool.true_and]
  · rw [if_neg (by omega), decide_eq_false h1, Bool.false_and]
theorem brings_yes (a p : Int) (sh : Bool) (h : good p = true) : baro_Brings.f a true p sh = some (p, true) := by
  unfold baro_Brings.f baro_kind.f
  rw [if_pos rfl, agood_f, h]
  rfl
theorem seeks_yes {m si : Int} (h : m = 0 ∨ m = 3) : mode_Clock_Seeks.f m si = some true := by
  rcases h with rfl | rfl <;> rfl
theorem valid_no {m si : Int} (h : m = 0 ∨ m = 3) : mode_Clock_Valid.f m si = some false := by
  rcases h with rfl | rfl <;> rfl
theorem on_miss {m si co ou : Int} (h : m = 0 ∨ m = 3) : mode_Clock_On.f 5 m si 2 co ou = some (m, si) := by
  rcases h with rfl | rfl <;> rfl
theorem on_enter {m si co ou : Int} (h : m = 0 ∨ m = 3) : mode_Clock_On.f 5 m si 0 co ou = some (1, 0) := by
  rcases h with rfl | rfl <;> rfl
section
variable {w0 W : World} {g f gr : Nat} {s : Gs} {c : Cf} {v : Value} {mode since last run band noise rough count : Int} {known : Bool} {l : List Int}
/-- What is told, stored whole. -/
theorem Chan.told {w : World} {S : Nat → Prop} (h : Chan w0 W g f gr s c v mode since last run band noise rough count known l) {b : Nat} (hb : W.heap[b]? = some (.cells (toldV 0 false false false false false 0 0 0) 39 (0, 0))) (b0 : w0.heap.size ≤ b) (lb : w.heap.size ≤ b) (hK : Kept w W S) (m : Int) (va ac re he gr' : Bool) (al sp bi : Int) :
    (((((((((W.setCell ⟨b, 0, none⟩ (.int .i64 m)).setCell ⟨b, 1, none⟩ (.bool va)).setCell ⟨b, 2, none⟩ (.bool ac)).setCell ⟨b, 3, none⟩ (.bool re)).setCell ⟨b, 4, none⟩ (.bool he)).setCell ⟨b, 5, none⟩ (.bool gr')).setCell ⟨b, 6, none⟩ (.int .i64 al)).setCell ⟨b, 7, none⟩ (.int .i64 sp)).setCell ⟨b, 8, none⟩ (.int .i64 bi)).heap[b]? = some (.cells (toldV m va ac re he gr' al sp bi) 39 (0, 0)) ∧ Chan w0 (((((((((W.setCell ⟨b, 0, none⟩ (.int .i64 m)).setCell ⟨b, 1, none⟩ (.bool va)).setCell ⟨b, 2, none⟩ (.bool ac)).setCell ⟨b, 3, none⟩ (.bool re)).setCell ⟨b, 4, none⟩ (.bool he)).setCell ⟨b, 5, none⟩ (.bool gr')).setCell ⟨b, 6, none⟩ (.int .i64 al)).setCell ⟨b, 7, none⟩ (.int .i64 sp)).setCell ⟨b, 8, none⟩ (.int .i64 bi)) g f gr s c v mode since last run band noise rough count known l ∧ Kept w (((((((((W.setCell ⟨b, 0, none⟩ (.int .i64 m)).setCell ⟨b, 1, none⟩ (.bool va)).setCell ⟨b, 2, none⟩ (.bool ac)).setCell ⟨b, 3, none⟩ (.bool re)).setCell ⟨b, 4, none⟩ (.bool he)).setCell ⟨b, 5, none⟩ (.bool gr')).setCell ⟨b, 6, none⟩ (.int .i64 al)).setCell ⟨b, 7, none⟩ (.int .i64 sp)).setCell ⟨b, 8, none⟩ (.int .i64 bi)) S := by
  have p0 := blk_set hb 0 (.int .i64 m)
  have q0 := h.far hb b0 0 (.int .i64 m)
  have k0 := hK.setCell (p := ⟨b, 0, none⟩) (.inr lb) (.int .i64 m)
  have p1 := blk_set p0 1 (.bool va)
  have q1 := q0.far p0 b0 1 (.bool va)
  have k1 := k0.setCell (p := ⟨b, 1, none⟩) (.inr lb) (.bool va)
  have p2 := blk_set p1 2 (.bool ac)
  have q2 := q1.far p1 b0 2 (.bool ac)
  have k2 := k1.setCell (p := ⟨b, 2, none⟩) (.inr lb) (.bool ac)
  have p3 := blk_set p2 3 (.bool re)
  have q3 := q2.far p2 b0 3 (.bool re)
  have k3 := k2.setCell (p := ⟨b, 3, none⟩) (.inr lb) (.bool re)
  have p4 := blk_set p3 4 (.bool he)
  have q4 := q3.far p3 b0 4 (.bool he)
  have k4 := k3.setCell (p := ⟨b, 4, none⟩) (.inr lb) (.bool he)
  have p5 := blk_set p4 5 (.bool gr')
  have q5 := q4.far p4 b0 5 (.bool gr')
  have k5 := k4.setCell (p := ⟨b, 5, none⟩) (.inr lb) (.bool gr')
  have p6 := blk_set p5 6 (.int .i64 al)
  have q6 := q5.far p5 b0 6 (.int .i64 al)
  have k6 := k5.setCell (p := ⟨b, 6, none⟩) (.inr lb) (.int .i64 al)
  have p7 := blk_set p6 7 (.int .i64 sp)
  have q7 := q6.far p6 b0 7 (.int .i64 sp)
  have k7 := k6.setCell (p := ⟨b, 7, none⟩) (.inr lb) (.int .i64 sp)
  have p8 := blk_set p7 8 (.int .i64 bi)
  have q8 := q7.far p7 b0 8 (.int .i64 bi)
  have k8 := k7.setCell (p := ⟨b, 8, none⟩) (.inr lb) (.int .i64 bi)
  exact ⟨p8.trans (by kernel_rfl), q8, k8⟩
end
set_option maxRecDepth 100000 in
set_option maxHeartbeats 8000000 in
theorem step_more (w0 w : World) (g f gr : Nat) (s : Gs) (c : Cf) (v : Value) (mode since last run band noise rough count : Int) (known : Bool) (l : List Int) (a p : Int) (sh : Bool)
    (h : Chan w0 w g f gr s c v mode since last run band noise rough count known l) (hck : checkR c = 0) (hm : mode = 0 ∨ mode = 3) (hp : good p = true) (hlo : inLost c run a = false) (hl : l.length < 15) :
    Calls Tryz.prog 10 #[.pointer (some ⟨g, 0, none⟩), .agg #[.int .i64 a, .bool true, .int .i64 p, .bool sh]] w fun e w' => ∃ v', e = .returned (.agg (toldV mode false false false (clipped c a) false 0 0 0)) ∧ Chan w0 w' g f gr s c v' mode since (inT c last a) (inRun c run a) band noise rough count known (l ++ [p]) ∧ Kept w w' (fun k => k = g ∨ k = f ∨ k = gr ∨ v.ownBlock = some k) := by
  have HC := Aside0.mk hck
  have HM := Aside0.mk hm
  have HGP := Aside0.mk hp
  have HLO := Aside0.mk hlo
  clear hck hm hp hlo
  go_enter Tryz.func10, Tryz.ntmps10
  go_upto_region 2 with fail
  obtain ⟨x3, x4, x5, hB⟩ := blocks3 w #[.int .i64 a, .bool true, .int .i64 p, .bool sh] (toldV 0 false false false false false 0 0 0) (toldV 0 false false false false false 0 0 0) 37 39 39
  have H := Aside0.mk (h.below hB)
  have HK := Aside0.mk (Kept.of_below hB (fun k => k = g ∨ k = f ∨ k = gr ∨ v.ownBlock = some k))
  obtain ⟨b3, h3⟩ : ∃ b, b = w.heap.size := ⟨_, rfl⟩
  obtain ⟨b4, h4⟩ : ∃ b, b = w.heap.size + 1 := ⟨_, rfl⟩
  obtain ⟨b5, h5⟩ : ∃ b, b = w.heap.size + 1 + 1 := ⟨_, rfl⟩
  have n35 : b3 ≠ b5 := by omega
  have n45 : b4 ≠ b5 := by omega
  have l4 : w.heap.size ≤ b4 := by omega
  have l5 : w.heap.size ≤ b5 := by omega
  have g4 : w0.heap.size ≤ b4 := Nat.le_trans h.hb.size l4
  have g5 : w0.heap.size ≤ b5 := Nat.le_trans h.hb.size l5
  rw [show w.heap.size + 2 = w.heap.size + 1 + 1 from rfl, ← h5, ← h4, ← h3]
  rw [← h5] at x5
  rw [← h4] at x4
  rw [← h3] at x3
  have HT := Aside0.mk x3
  have H4 := Aside0.mk x4
  have H5 := Aside0.mk x5
  clear x3 x4 x5 hB h3 h4 h5 h
  unfold toldV at H HT H4 H5 HK
  generalize ((w.alloc (.cells #[.int .i64 a, .bool true, .int .i64 p, .bool sh] 37)).alloc (.cells #[.int .i64 0, .bool false, .bool false, .bool false, .bool false, .bool false, .int .i64 0, .int .i64 0, .int .i64 0] 39)).alloc (.cells #[.int .i64 0, .bool false, .bool false, .bool false, .bool false, .bool false, .int .i64 0, .int .i64 0, .int .i64 0] 39) = W0 at H HT H4 H5 HK ⊢
  refine start_ (n := 14) (S := fun w' => w'.heap[g]? = some (.cells (chanV s c f gr v mode since) 56 (0, 0)) ∧ w'.heap[b3]? = some (.cells #[.int .i64 a, .bool true, .int .i64 p, .bool sh] 37 (0, 0))) (ds := []) #[false, false, false, false, false, false, false, false, false, false, false, false, false, false] (by kernel_rfl) rfl rfl ⟨H.out.hg, HT.out⟩ (fun hHeld => ?_)
  replace H := Aside0.mk (H.out.drewN 1)
  replace HT := Aside0.mk (blk_drew HT.out)
  replace H4 := Aside0.mk (blk_drew H4.out)
  replace H5 := Aside0.mk (blk_drew H5.out)
  replace HK := Aside0.mk HK.out.drew
  change Aside0 (Chan w0 W0.drew _ _ _ _ _ _ _ _ _ _ _ _ _ _ _ _) at H
  generalize W0.drew = Wd at H HT H4 H5 HK hHeld ⊢
  refine pure_ (i := 0) (N := (some 14)) (v := ?_) (a' := ?_) #[true, false, false, false, false, false, false, false, false, false, false, false, false, false] rfl rfl (by kernel_rfl) (fun _ _ _ h => h) (Or.inl ⟨by rfl, ?_⟩) ?_ ?_
  rotate_left
  · intro w'
    go_simp
    with_reducible rfl
  rotate_left
  · simp only [Act.put, List.setIfInBounds_toArray, List.set_cons_zero, List.set_cons_succ, i64_w, i32_w]
    rfl
  refine pure_ (i := 1) (N := (some 15)) (v := ?_) (a' := ?_) #[true, true, false, false, false, false, false, false, false, false, false, false, false, false] rfl rfl (by kernel_rfl) (fun _ _ _ h => h) (Or.inl ⟨by rfl, ?_⟩) ?_ ?_
  rotate_left
  · intro w'
    go_simp
    with_reducible rfl
  rotate_left
  · simp only [Act.put, List.setIfInBounds_toArray, List.set_cons_zero, List.set_cons_succ, i64_w, i32_w]
    rfl
  refine pure_ (i := 2) (N := (some 16)) (v := ?_) (a' := ?_) #[true, true, true, false, false, false, false, false, false, false, false, false, false, false] rfl rfl (by kernel_rfl) (fun _ _ _ h => h) (Or.inl ⟨by rfl, ?_⟩) ?_ ?_
  rotate_left
  · intro w'
    go_simp
    with_reducible rfl
  rotate_left
  · simp only [Act.put, List.setIfInBounds_toArray, List.set_cons_zero, List.set_cons_succ, i64_w, i32_w]
    rfl
  refine take_ (i := 3) (N := (some 17)) (v := ?_) (a' := ?_) #[true, true, true, true, false, false, false, false, false, false, false, false, false, false] rfl rfl (by kernel_rfl) (fun _ _ _ h => h) (Or.inl ⟨by rfl, ?_⟩) hHeld ?_ ?_
  rotate_left
  · rintro w' ⟨s0, s1⟩
    have x := (blk_cell s0 40).trans (show _ = some (.pointer (some ⟨f, 0, none⟩)) from rfl)
    go_simp
    with_reducible rfl
  rotate_left
  · simp only [Act.put, List.setIfInBounds_toArray, List.set_cons_zero, List.set_cons_succ, i64_w, i32_w]
    rfl
  refine pure_ (i := 4) (N := (some 18)) (v := ?_) (a' := ?_) #[true, true, true, true, true, false, false, false, false, false, false, false, false, false] rfl rfl (by kernel_rfl) (fun _ _ _ h => h) (Or.inl ⟨by rfl, ?_⟩) ?_ ?_
  rotate_left
  · intro w'
    go_simp
    with_reducible rfl
  rotate_left
  · simp only [Act.put, List.setIfInBounds_toArray, List.set_cons_zero, List.set_cons_succ, i64_w, i32_w]
    rfl
  refine take_ (i := 5) (N := (some 19)) (v := ?_) (a' := ?_) #[true, true, true, true, true, true, false, false, false, false, false, false, false, false] rfl rfl (by kernel_rfl) (fun _ _ _ h => h) (Or.inl ⟨by rfl, ?_⟩) hHeld ?_ ?_
  rotate_left
  · rintro w' ⟨s0, s1⟩
    have x := (blk_cell s1 0).trans (show _ = some (.int .i64 a) from rfl)
    go_simp
    with_reducible rfl
  rotate_left
  · simp only [Act.put, List.setIfInBounds_toArray, List.set_cons_zero, List.set_cons_succ, i64_w, i32_w]
    rfl
  refine one_ (i := 6) (N := (some 20)) #[true, true, true, true, true, true, true, false, false, false, false, false, false, false] rfl rfl (by kernel_rfl) (by decide) (fun K hK => ?_)
  refine goes_ Tryz.func22 (by kernel_rfl) rfl #[.pointer (some ⟨f, 0, none⟩), .int .i64 a] (by rfl) rfl rfl (by (try simp only [List.map_toArray, List.map_cons, List.map_nil]); first | done | rfl) ?_
  refine (in_any w0 Wd f c last run a H.out.hf H.out.f0 H.out.hb HC.out).mono ?_
  rintro e W1 ⟨rfl, hF, hB, hk⟩
  replace HT := Aside0.mk (hk.blk HT.out (blk_ne HT.out H.out.hf (by decide)) (by simp))
  replace H4 := Aside0.mk (hk.blk H4.out (blk_ne H4.out H.out.hf (by decide)) (by simp))
  replace H5 := Aside0.mk (hk.blk H5.out (blk_ne H5.out H.out.hf (by decide)) (by simp))
  replace HK := Aside0.mk (HK.out.of_keep hk (.inl (.inr (.inl rfl))))
  replace H := Aside0.mk (H.out.fed hF hB hk)
  rw [HLO.out]
  clear hF hB hk hHeld
  refine ⟨_, rfl, ?_⟩
  refine hK.out _ _ ⟨H.out.hg, HT.out⟩ (fun hHeld => ?_)
  clear hK K
  refine norm_ (a' := ?_) ?_ ?_
  rotate_left
  · show Act.put _ (some 20) _ = _
    simp only [Act.put, List.setIfInBounds_toArray, List.set_cons_zero, List.set_cons_succ, i64_w, i32_w]
    rfl
  refine pure_ (i := 7) (N := (some 13)) (v := ?_) (a' := ?_) #[true, true, true, true, true, true, true, true, false, false, false, false, false, false] rfl rfl (by kernel_rfl) (fun _ _ _ h => h) (Or.inl ⟨by rfl, ?_⟩) ?_ ?_
  rotate_left
  · intro w'
    go_simp
    with_reducible rfl
  rotate_left
  · simp only [Act.put, List.setIfInBounds_toArray, List.set_cons_zero, List.set_cons_succ, i64_w, i32_w]
    rfl
  refine pure_ (i := 8) (N := (some 21)) (v := ?_) (a' := ?_) #[true, true, true, true, true, true, true, true, true, false, false, false, false, false] rfl rfl (by kernel_rfl) (fun _ _ _ h => h) (Or.inl ⟨by rfl, ?_⟩) ?_ ?_
  rotate_left
  · intro w'
    go_simp
    with_reducible rfl
  rotate_left
  · simp only [Act.put, List.setIfInBounds_toArray, List.set_cons_zero, List.set_cons_succ, i64_w, i32_w]
    rfl
  refine pure_ (i := 9) (N := (some 22)) (v := ?_) (a' := ?_) #[true, true, true, true, true, true, true, true, true, true, false, false, false, false] rfl rfl (by kernel_rfl) (fun _ _ _ h => h) (Or.inl ⟨by rfl, ?_⟩) ?_ ?_
  rotate_left
  · intro w'
    go_simp
    with_reducible rfl
  rotate_left
  · simp only [Act.put, List.setIfInBounds_toArray, List.set_cons_zero, List.set_cons_succ, i64_w, i32_w]
    rfl
  refine pure_ (i := 10) (N := (some 23)) (v := ?_) (a' := ?_) #[true, true, true, true, true, true, true, true, true, true, true, false, false, false] rfl rfl (by kernel_rfl) (fun _ _ _ h => h) (Or.inl ⟨by rfl, ?_⟩) ?_ ?_
  rotate_left
  · intro w'
    go_simp
    with_reducible rfl
  rotate_left
  · simp only [Act.put, List.setIfInBounds_toArray, List.set_cons_zero, List.set_cons_succ, i64_w, i32_w]
    rfl
  refine pure_ (i := 11) (N := (some 6)) (v := ?_) (a' := ?_) #[true, true, true, true, true, true, true, true, true, true, true, true, false, false] rfl rfl (by kernel_rfl) (fun _ _ _ h => h) (Or.inl ⟨by rfl, ?_⟩) ?_ ?_
  rotate_left
  · intro w'
    go_simp
    with_reducible rfl
  rotate_left
  · simp only [Act.put, List.setIfInBounds_toArray, List.set_cons_zero, List.set_cons_succ, i64_w, i32_w]
    rfl
  refine pure_ (i := 12) (N := (some 7)) (v := ?_) (a' := ?_) #[true, true, true, true, true, true, true, true, true, true, true, true, true, false] rfl rfl (by kernel_rfl) (fun _ _ _ h => h) (Or.inl ⟨by rfl, ?_⟩) ?_ ?_
  rotate_left
  · intro w'
    go_simp
    with_reducible rfl
  rotate_left
  · simp only [Act.put, List.setIfInBounds_toArray, List.set_cons_zero, List.set_cons_succ, i64_w, i32_w]
    rfl
  refine pure_ (i := 13) (N := (some 8)) (v := ?_) (a' := ?_) #[true, true, true, true, true, true, true, true, true, true, true, true, true, true] rfl rfl (by kernel_rfl) (fun _ _ _ h => h) (Or.inl ⟨by rfl, ?_⟩) ?_ ?_
  rotate_left
  · intro w'
    go_simp
    with_reducible rfl
  rotate_left
  · simp only [Act.put, List.setIfInBounds_toArray, List.set_cons_zero, List.set_cons_succ, i64_w, i32_w]
    rfl
  refine done_ (by kernel_rfl) ?_
  obtain ⟨th, hth⟩ : ∃ th, th = inT c last a := ⟨_, rfl⟩
  obtain ⟨rn, hrn⟩ : ∃ rn, rn = inRun c run a := ⟨_, rfl⟩
  obtain ⟨hd, hhd⟩ : ∃ hd, hd = clipped c a := ⟨_, rfl⟩
  rw [← hth, ← hhd]
  rw [← hth, ← hrn] at H
  have HTH := Aside0.mk hth
  have HRN := Aside0.mk hrn
  have HHD := Aside0.mk hhd
  clear hth hrn hhd
  have x0 : W1.cell? ⟨b3, 0, none⟩ = some (.int .i64 a) := (blk_cell HT.out 0).trans rfl
  have x1 : W1.cell? ⟨b3, 1, none⟩ = some (.bool true) := (blk_cell HT.out 1).trans rfl
  have x2 : W1.cell? ⟨b3, 2, none⟩ = some (.int .i64 p) := (blk_cell HT.out 2).trans rfl
  have x3 : W1.cell? ⟨b3, 3, none⟩ = some (.bool sh) := (blk_cell HT.out 3).trans rfl
  go_wp2_with fail
  refine (baro_Brings.calls a true p sh p true W1 (brings_yes a p sh HGP.out)).mono ?_
  rintro e W2 ⟨rfl, hb⟩
  replace H := Aside0.mk (H.out.below hb)
  replace HT := Aside0.mk (blk_below HT.out hb)
  replace H4 := Aside0.mk (blk_below H4.out hb)
  replace H5 := Aside0.mk (blk_below H5.out hb)
  replace HK := Aside0.mk (HK.out.below hb)
  clear hb x0 x1 x2 x3
  have z4 : W2.cell? ⟨b5, 4, none⟩ = some (.bool false) := (blk_cell H5.out 4).trans rfl
  have e4 := blk_frozen H5.out 4
  go_upto_region 5 with fail
  clear z4 e4
  have q5 := (blk_set H5.out 4 (.bool hd)).trans (show _ = some (Obj.cells (toldV 0 false false false hd false 0 0 0) 39 (0, 0)) by kernel_rfl)
  replace H := Aside0.mk (H.out.far H5.out g5 4 (.bool hd))
  replace HT := Aside0.mk (blk_far HT.out (p := ⟨b5, 4, none⟩) n35 (.bool hd))
  replace H4 := Aside0.mk (blk_far H4.out (p := ⟨b5, 4, none⟩) n45 (.bool hd))
  replace HK := Aside0.mk (HK.out.setCell (p := ⟨b5, 4, none⟩) (.inr l5) (.bool hd))
  replace H5 := Aside0.mk q5
  clear q5
  generalize W2.setCell ⟨b5, 4, none⟩ (.bool hd) = W3 at H HT H4 H5 HK ⊢
  have y43 : W3.cell? ⟨g, 43, none⟩ = some (.int .i64 mode) := (blk_cell H.out.hg 43).trans rfl
  have y44 : W3.cell? ⟨g, 44, none⟩ = some (.int .i64 since) := (blk_cell H.out.hg 44).trans rfl
  go_wp2_with fail
  refine (mode_Clock_Seeks.calls mode since true W3 (seeks_yes HM.out)).mono ?_
  rintro e W4 ⟨rfl, hb⟩
  replace H := Aside0.mk (H.out.below hb)
  replace HT := Aside0.mk (blk_below HT.out hb)
  replace H4 := Aside0.mk (blk_below H4.out hb)
  replace H5 := Aside0.mk (blk_below H5.out hb)
  replace HK := Aside0.mk (HK.out.below hb)
  clear hb y43 y44
  go_wp2_with fail
  refine (seek_more w0 W4 g f gr s c v mode since th rn band noise rough count known l p H.out hl).mono ?_
  rintro e Wx ⟨v', rfl, hH, hk⟩
  have k5 := blk_kept H5.out hk (fun hS => by rcases hS with e | e | e; exact blk_ne H5.out H.out.hg (by decide) e; exact (H.out.hi.ne_blk H5.out (by decide)) e.symm; exact (Kd.R_ne H.out.hr H5.out (by decide)) e.symm)
  have k4 := blk_kept H4.out hk (fun hS => by rcases hS with e | e | e; exact blk_ne H4.out H.out.hg (by decide) e; exact (H.out.hi.ne_blk H4.out (by decide)) e.symm; exact (Kd.R_ne H.out.hr H4.out (by decide)) e.symm)
  have k3 := blk_kept HT.out hk (fun hS => by rcases hS with e | e | e; exact blk_ne HT.out H.out.hg (by decide) e; exact (H.out.hi.ne_blk HT.out (by decide)) e.symm; exact (Kd.R_ne H.out.hr HT.out (by decide)) e.symm)
  replace HK := Aside0.mk (HK.out.then_ hk (fun k hS => by rcases hS with e | e | e; exact .inl (.inl e); exact .inl (.inr (.inr (.inl e))); exact .inl (.inr (.inr (.inr e)))))
  replace H5 := Aside0.mk k5
  replace H4 := Aside0.mk k4
  replace HT := Aside0.mk k3
  replace H := Aside0.mk hH
  clear hk hH k3 k4 k5
  clear hl
  go_upto_region 17 with fail
  refine start_ (n := 20) (S := fun w' => w'.cell? ⟨g, 37, none⟩ = some (.int .i64 c.coast) ∧ w'.cell? ⟨g, 38, none⟩ = some (.int .i64 c.out)) (ds := []) #[false, false, false, false, false, false, false, false, false, false, false, false, false, false, false, false, false, false, false, false] (by kernel_rfl) rfl rfl ⟨(blk_cell H.out.hg 37).trans rfl, (blk_cell H.out.hg 38).trans rfl⟩ (fun hHeld => ?_)
  replace H := Aside0.mk (H.out.drewN 1)
  replace HT := Aside0.mk (blk_drew HT.out)
  replace H4 := Aside0.mk (blk_drew H4.out)
  replace H5 := Aside0.mk (blk_drew H5.out)
  replace HK := Aside0.mk HK.out.drew
  change Aside0 (Chan w0 Wx.drew _ _ _ _ _ _ _ _ _ _ _ _ _ _ _ _) at H
  generalize Wx.drew = We at H HT H4 H5 HK hHeld ⊢
  refine pure_ (i := 0) (N := (some 68)) (v := ?_) (a' := ?_) #[true, false, false, false, false, false, false, false, false, false, false, false, false, false, false, false, false, false, false, false] rfl rfl (by kernel_rfl) (fun _ _ _ h => h) (Or.inl ⟨by rfl, ?_⟩) ?_ ?_
  rotate_left
  · intro w'
    go_simp
    with_reducible rfl
  rotate_left
  · simp only [Act.put, List.setIfInBounds_toArray, List.set_cons_zero, List.set_cons_succ, i64_w, i32_w]
    rfl
  refine pure_ (i := 1) (N := (some 69)) (v := ?_) (a' := ?_) #[true, true, false, false, false, false, false, false, false, false, false, false, false, false, false, false, false, false, false, false] rfl rfl (by kernel_rfl) (fun _ _ _ h => h) (Or.inl ⟨by rfl, ?_⟩) ?_ ?_
  rotate_left
  · intro w'
    go_simp
    with_reducible rfl
  rotate_left
  · simp only [Act.put, List.setIfInBounds_toArray, List.set_cons_zero, List.set_cons_succ, i64_w, i32_w]
    rfl
  refine pure_ (i := 2) (N := (some 70)) (v := ?_) (a' := ?_) #[true, true, true, false, false, false, false, false, false, false, false, false, false, false, false, false, false, false, false, false] rfl rfl (by kernel_rfl) (fun _ _ _ h => h) (Or.inl ⟨by rfl, ?_⟩) ?_ ?_
  rotate_left
  · intro w'
    go_simp
    with_reducible rfl
  rotate_left
  · simp only [Act.put, List.setIfInBounds_toArray, List.set_cons_zero, List.set_cons_succ, i64_w, i32_w]
    rfl
  refine pure_ (i := 3) (N := (some 71)) (v := ?_) (a' := ?_) #[true, true, true, true, false, false, false, false, false, false, false, false, false, false, false, false, false, false, false, false] rfl rfl (by kernel_rfl) (fun _ _ _ h => h) (Or.inl ⟨by rfl, ?_⟩) ?_ ?_
  rotate_left
  · intro w'
    go_simp
    with_reducible rfl
  rotate_left
  · simp only [Act.put, List.setIfInBounds_toArray, List.set_cons_zero, List.set_cons_succ, i64_w, i32_w]
    rfl
  refine pure_ (i := 5) (N := (some 73)) (v := ?_) (a' := ?_) #[true, true, true, true, false, true, false, false, false, false, false, false, false, false, false, false, false, false, false, false] rfl rfl (by kernel_rfl) (fun _ _ _ h => h) (Or.inl ⟨by rfl, ?_⟩) ?_ ?_
  rotate_left
  · intro w'
    go_simp
    with_reducible rfl
  rotate_left
  · simp only [Act.put, List.setIfInBounds_toArray, List.set_cons_zero, List.set_cons_succ, i64_w, i32_w]
    rfl
  refine pure_ (i := 6) (N := (some 74)) (v := ?_) (a' := ?_) #[true, true, true, true, false, true, true, false, false, false, false, false, false, false, false, false, false, false, false, false] rfl rfl (by kernel_rfl) (fun _ _ _ h => h) (Or.inl ⟨by rfl, ?_⟩) ?_ ?_
  rotate_left
  · intro w'
    go_simp
    with_reducible rfl
  rotate_left
  · simp only [Act.put, List.setIfInBounds_toArray, List.set_cons_zero, List.set_cons_succ, i64_w, i32_w]
    rfl
  refine pure_ (i := 7) (N := (some 75)) (v := ?_) (a' := ?_) #[true, true, true, true, false, true, true, true, false, false, false, false, false, false, false, false, false, false, false, false] rfl rfl (by kernel_rfl) (fun _ _ _ h => h) (Or.inl ⟨by rfl, ?_⟩) ?_ ?_
  rotate_left
  · intro w'
    go_simp
    with_reducible rfl
  rotate_left
  · simp only [Act.put, List.setIfInBounds_toArray, List.set_cons_zero, List.set_cons_succ, i64_w, i32_w]
    rfl
  refine pure_ (i := 8) (N := (some 76)) (v := ?_) (a' := ?_) #[true, true, true, true, false, true, true, true, true, false, false, false, false, false, false, false, false, false, false, false] rfl rfl (by kernel_rfl) (fun _ _ _ h => h) (Or.inl ⟨by rfl, ?_⟩) ?_ ?_
  rotate_left
  · intro w'
    go_simp
    with_reducible rfl
  rotate_left
  · simp only [Act.put, List.setIfInBounds_toArray, List.set_cons_zero, List.set_cons_succ, i64_w, i32_w]
    rfl
  refine pure_ (i := 9) (N := (some 77)) (v := ?_) (a' := ?_) #[true, true, true, true, false, true, true, true, true, true, false, false, false, false, false, false, false, false, false, false] rfl rfl (by kernel_rfl) (fun _ _ _ h => h) (Or.inl ⟨by rfl, ?_⟩) ?_ ?_
  rotate_left
  · intro w'
    go_simp
    with_reducible rfl
  rotate_left
  · simp only [Act.put, List.setIfInBounds_toArray, List.set_cons_zero, List.set_cons_succ, i64_w, i32_w]
    rfl
  refine take_ (i := 10) (N := (some 78)) (v := ?_) (a' := ?_) #[true, true, true, true, false, true, true, true, true, true, true, false, false, false, false, false, false, false, false, false] rfl rfl (by kernel_rfl) (fun _ _ _ h => h) (Or.inl ⟨by rfl, ?_⟩) hHeld ?_ ?_
  rotate_left
  · rintro w' ⟨s0, s1⟩
    go_simp
    with_reducible rfl
  rotate_left
  · simp only [Act.put, List.setIfInBounds_toArray, List.set_cons_zero, List.set_cons_succ, i64_w, i32_w]
    rfl
  refine pure_ (i := 11) (N := (some 79)) (v := ?_) (a' := ?_) #[true, true, true, true, false, true, true, true, true, true, true, true, false, false, false, false, false, false, false, false] rfl rfl (by kernel_rfl) (fun _ _ _ h => h) (Or.inl ⟨by rfl, ?_⟩) ?_ ?_
  rotate_left
  · intro w'
    go_simp
    with_reducible rfl
  rotate_left
  · simp only [Act.put, List.setIfInBounds_toArray, List.set_cons_zero, List.set_cons_succ, i64_w, i32_w]
    rfl
  refine pure_ (i := 12) (N := (some 80)) (v := ?_) (a' := ?_) #[true, true, true, true, false, true, true, true, true, true, true, true, true, false, false, false, false, false, false, false] rfl rfl (by kernel_rfl) (fun _ _ _ h => h) (Or.inl ⟨by rfl, ?_⟩) ?_ ?_
  rotate_left
  · intro w'
    go_simp
    with_reducible rfl
  rotate_left
  · simp only [Act.put, List.setIfInBounds_toArray, List.set_cons_zero, List.set_cons_succ, i64_w, i32_w]
    rfl
  refine pure_ (i := 13) (N := (some 81)) (v := ?_) (a' := ?_) #[true, true, true, true, false, true, true, true, true, true, true, true, true, true, false, false, false, false, false, false] rfl rfl (by kernel_rfl) (fun _ _ _ h => h) (Or.inl ⟨by rfl, ?_⟩) ?_ ?_
  rotate_left
  · intro w'
    go_simp
    with_reducible rfl
  rotate_left
  · simp only [Act.put, List.setIfInBounds_toArray, List.set_cons_zero, List.set_cons_succ, i64_w, i32_w]
    rfl
  refine pure_ (i := 14) (N := (some 82)) (v := ?_) (a' := ?_) #[true, true, true, true, false, true, true, true, true, true, true, true, true, true, true, false, false, false, false, false] rfl rfl (by kernel_rfl) (fun _ _ _ h => h) (Or.inl ⟨by rfl, ?_⟩) ?_ ?_
  rotate_left
  · intro w'
    go_simp
    with_reducible rfl
  rotate_left
  · simp only [Act.put, List.setIfInBounds_toArray, List.set_cons_zero, List.set_cons_succ, i64_w, i32_w]
    rfl
  refine take_ (i := 15) (N := (some 83)) (v := ?_) (a' := ?_) #[true, true, true, true, false, true, true, true, true, true, true, true, true, true, true, true, false, false, false, false] rfl rfl (by kernel_rfl) (fun _ _ _ h => h) (Or.inl ⟨by rfl, ?_⟩) hHeld ?_ ?_
  rotate_left
  · rintro w' ⟨s0, s1⟩
    go_simp
    with_reducible rfl
  rotate_left
  · simp only [Act.put, List.setIfInBounds_toArray, List.set_cons_zero, List.set_cons_succ, i64_w, i32_w]
    rfl
  have y43 : We.cell? ⟨g, 43, none⟩ = some (.int .i64 mode) := (blk_cell H.out.hg 43).trans rfl
  have y44 : We.cell? ⟨g, 44, none⟩ = some (.int .i64 since) := (blk_cell H.out.hg 44).trans rfl
  refine one_ (i := 4) (N := (some 72)) #[true, true, true, true, true, true, true, true, true, true, true, true, true, true, true, true, false, false, false, false] rfl rfl (by kernel_rfl) (by decide) (fun K hK => ?_)
  refine event_step (v := .agg #[.int .i64 mode, .int .i64 since]) (w1 := We) (by rfl) (by first | (go_simp; done) | (go_simp; rfl)) ?_
  clear hHeld y43 y44
  refine hK.out _ _ ⟨(blk_cell H.out.hg 37).trans rfl, (blk_cell H.out.hg 38).trans rfl⟩ (fun hHeld => ?_)
  clear hK K
  refine norm_ (a' := ?_) ?_ ?_
  rotate_left
  · show Act.put _ (some 72) _ = _
    simp only [Act.put, List.setIfInBounds_toArray, List.set_cons_zero, List.set_cons_succ, i64_w, i32_w]
    rfl
  refine one_ (i := 16) (N := (some 84)) #[true, true, true, true, true, true, true, true, true, true, true, true, true, true, true, true, true, false, false, false] rfl rfl (by kernel_rfl) (by decide) (fun K hK => ?_)
  refine goes_ Tryz.func28 (by kernel_rfl) rfl #[.agg #[.int .i64 mode, .int .i64 since], .int .i64 2, .int .i64 c.coast, .int .i64 c.out] (by rfl) rfl rfl (by (try simp only [List.map_toArray, List.map_cons, List.map_nil]); first | done | rfl) ?_
  refine (mode_Clock_On.calls 5 mode since 2 c.coast c.out mode since We (on_miss HM.out)).mono ?_
  rintro e Wf ⟨rfl, hb⟩
  replace H := Aside0.mk (H.out.below hb)
  replace HT := Aside0.mk (blk_below HT.out hb)
  replace H4 := Aside0.mk (blk_below H4.out hb)
  replace H5 := Aside0.mk (blk_below H5.out hb)
  replace HK := Aside0.mk (HK.out.below hb)
  clear hb hHeld
  refine ⟨_, rfl, ?_⟩
  refine hK.out _ _ ⟨(blk_cell H.out.hg 37).trans rfl, (blk_cell H.out.hg 38).trans rfl⟩ (fun hHeld => ?_)
  clear hK K
  refine norm_ (a' := ?_) ?_ ?_
  rotate_left
  · show Act.put _ (some 84) _ = _
    simp only [Act.put, List.setIfInBounds_toArray, List.set_cons_zero, List.set_cons_succ, i64_w, i32_w]
    rfl
  refine pure_ (i := 17) (N := (some 85)) (v := ?_) (a' := ?_) #[true, true, true, true, true, true, true, true, true, true, true, true, true, true, true, true, true, true, false, false] rfl rfl (by kernel_rfl) (fun _ _ _ h => h) (Or.inl ⟨by rfl, ?_⟩) ?_ ?_
  rotate_left
  · intro w'
    go_simp
    with_reducible rfl
  rotate_left
  · simp only [Act.put, List.setIfInBounds_toArray, List.set_cons_zero, List.set_cons_succ, i64_w, i32_w]
    rfl
  refine pure_ (i := 18) (N := (some 86)) (v := ?_) (a' := ?_) #[true, true, true, true, true, true, true, true, true, true, true, true, true, true, true, true, true, true, true, false] rfl rfl (by kernel_rfl) (fun _ _ _ h => h) (Or.inl ⟨by rfl, ?_⟩) ?_ ?_
  rotate_left
  · intro w'
    go_simp
    with_reducible rfl
  rotate_left
  · simp only [Act.put, List.setIfInBounds_toArray, List.set_cons_zero, List.set_cons_succ, i64_w, i32_w]
    rfl
  have y43 : Wf.cell? ⟨g, 43, none⟩ = some (.int .i64 mode) := (blk_cell H.out.hg 43).trans rfl
  have f43 := blk_frozen H.out.hg 43
  have y44 : Wf.cell? ⟨g, 44, none⟩ = some (.int .i64 since) := (blk_cell H.out.hg 44).trans rfl
  have f44 := blk_frozen H.out.hg 44
  refine one_ (i := 19) (N := none) #[true, true, true, true, true, true, true, true, true, true, true, true, true, true, true, true, true, true, true, true] rfl rfl (by kernel_rfl) (by decide) (fun K hK => ?_)
  refine skip_ (w1 := (Wf.setCell ⟨g, 43, none⟩ (.int .i64 mode)).setCell ⟨g, 44, none⟩ (.int .i64 since)) (by rfl) rfl (by first | (go_simp; done) | (go_simp; rfl)) ?_
  have n5 := blk_ne H5.out H.out.hg (by decide)
  have n4 := blk_ne H4.out H.out.hg (by decide)
  have n3 := blk_ne HT.out H.out.hg (by decide)
  have q := (H.out.set 43 (.int .i64 mode) (s' := s) (mode' := mode) (since' := since) (by kernel_rfl)).set 44 (.int .i64 since) (s' := s) (mode' := mode) (since' := since) (by kernel_rfl)
  replace HT := Aside0.mk (blk_far (blk_far HT.out (p := ⟨g, 43, none⟩) n3 (.int .i64 mode)) (p := ⟨g, 44, none⟩) n3 (.int .i64 since))
  replace H4 := Aside0.mk (blk_far (blk_far H4.out (p := ⟨g, 43, none⟩) n4 (.int .i64 mode)) (p := ⟨g, 44, none⟩) n4 (.int .i64 since))
  replace H5 := Aside0.mk (blk_far (blk_far H5.out (p := ⟨g, 43, none⟩) n5 (.int .i64 mode)) (p := ⟨g, 44, none⟩) n5 (.int .i64 since))
  replace HK := Aside0.mk ((HK.out.setCell (p := ⟨g, 43, none⟩) (.inl (.inl rfl)) (.int .i64 mode)).setCell (p := ⟨g, 44, none⟩) (.inl (.inl rfl)) (.int .i64 since))
  replace H := Aside0.mk q
  clear q hHeld y43 y44 f43 f44 n3 n4 n5
  generalize (Wf.setCell ⟨g, 43, none⟩ (.int .i64 mode)).setCell ⟨g, 44, none⟩ (.int .i64 since) = Wg at H HT H4 H5 HK ⊢
  refine hK.out _ _ ⟨(blk_cell H.out.hg 37).trans rfl, (blk_cell H.out.hg 38).trans rfl⟩ (fun hHeld => ?_)
  clear hK K
  refine done_ (by kernel_rfl) ?_
  have y43 : Wg.cell? ⟨g, 43, none⟩ = some (.int .i64 mode) := (blk_cell H.out.hg 43).trans rfl
  have y44 : Wg.cell? ⟨g, 44, none⟩ = some (.int .i64 since) := (blk_cell H.out.hg 44).trans rfl
  go_wp2_with fail
  refine (mode_Clock_Seeks.calls mode since true Wg (seeks_yes HM.out)).mono ?_
  rintro e Wh ⟨rfl, hb⟩
  replace H := Aside0.mk (H.out.below hb)
  replace HT := Aside0.mk (blk_below HT.out hb)
  replace H4 := Aside0.mk (blk_below H4.out hb)
  replace H5 := Aside0.mk (blk_below H5.out hb)
  replace HK := Aside0.mk (HK.out.below hb)
  clear hb y43 y44
  go_upto_region 20 with fail
  refine start_ (n := 14) (S := fun w' => w'.heap[g]? = some (.cells (chanV s c f gr v' mode since) 56 (0, 0))) (ds := []) #[false, false, false, false, false, false, false, false, false, false, false, false, false, false] (by kernel_rfl) rfl rfl H.out.hg (fun hHeld => ?_)
  replace H := Aside0.mk (H.out.drewN 1)
  replace HT := Aside0.mk (blk_drew HT.out)
  replace H4 := Aside0.mk (blk_drew H4.out)
  replace H5 := Aside0.mk (blk_drew H5.out)
  replace HK := Aside0.mk HK.out.drew
  change Aside0 (Chan w0 Wh.drew _ _ _ _ _ _ _ _ _ _ _ _ _ _ _ _) at H
  generalize Wh.drew = Wj at H HT H4 H5 HK hHeld ⊢
  refine pure_ (i := 0) (N := (some 107)) (v := ?_) (a' := ?_) #[true, false, false, false, false, false, false, false, false, false, false, false, false, false] rfl rfl (by kernel_rfl) (fun _ _ _ h => h) (Or.inl ⟨by rfl, ?_⟩) ?_ ?_
  rotate_left
  · intro w'
    go_simp
    with_reducible rfl
  rotate_left
  · simp only [Act.put, List.setIfInBounds_toArray, List.set_cons_zero, List.set_cons_succ, i64_w, i32_w]
    rfl
  refine pure_ (i := 1) (N := (some 108)) (v := ?_) (a' := ?_) #[true, true, false, false, false, false, false, false, false, false, false, false, false, false] rfl rfl (by kernel_rfl) (fun _ _ _ h => h) (Or.inl ⟨by rfl, ?_⟩) ?_ ?_
  rotate_left
  · intro w'
    go_simp
    with_reducible rfl
  rotate_left
  · simp only [Act.put, List.setIfInBounds_toArray, List.set_cons_zero, List.set_cons_succ, i64_w, i32_w]
    rfl
  refine pure_ (i := 2) (N := (some 109)) (v := ?_) (a' := ?_) #[true, true, true, false, false, false, false, false, false, false, false, false, false, false] rfl rfl (by kernel_rfl) (fun _ _ _ h => h) (Or.inl ⟨by rfl, ?_⟩) ?_ ?_
  rotate_left
  · intro w'
    go_simp
    with_reducible rfl
  rotate_left
  · simp only [Act.put, List.setIfInBounds_toArray, List.set_cons_zero, List.set_cons_succ, i64_w, i32_w]
    rfl
  refine pure_ (i := 3) (N := (some 110)) (v := ?_) (a' := ?_) #[true, true, true, true, false, false, false, false, false, false, false, false, false, false] rfl rfl (by kernel_rfl) (fun _ _ _ h => h) (Or.inl ⟨by rfl, ?_⟩) ?_ ?_
  rotate_left
  · intro w'
    go_simp
    with_reducible rfl
  rotate_left
  · simp only [Act.put, List.setIfInBounds_toArray, List.set_cons_zero, List.set_cons_succ, i64_w, i32_w]
    rfl
  refine take_ (i := 4) (N := (some 111)) (v := ?_) (a' := ?_) #[true, true, true, true, true, false, false, false, false, false, false, false, false, false] rfl rfl (by kernel_rfl) (fun _ _ _ h => h) (Or.inl ⟨by rfl, ?_⟩) hHeld ?_ ?_
  rotate_left
  · rintro w' s0
    have x := (blk_cell s0 43).trans (show _ = some (.int .i64 mode) from rfl)
    go_simp
    with_reducible rfl
  rotate_left
  · simp only [Act.put, List.setIfInBounds_toArray, List.set_cons_zero, List.set_cons_succ, i64_w, i32_w]
    rfl
  refine pure_ (i := 5) (N := (some 112)) (v := ?_) (a' := ?_) #[true, true, true, true, true, true, false, false, false, false, false, false, false, false] rfl rfl (by kernel_rfl) (fun _ _ _ h => h) (Or.inl ⟨by rfl, ?_⟩) ?_ ?_
  rotate_left
  · intro w'
    go_simp
    with_reducible rfl
  rotate_left
  · simp only [Act.put, List.setIfInBounds_toArray, List.set_cons_zero, List.set_cons_succ, i64_w, i32_w]
    rfl
  refine pure_ (i := 6) (N := (some 113)) (v := ?_) (a' := ?_) #[true, true, true, true, true, true, true, false, false, false, false, false, false, false] rfl rfl (by kernel_rfl) (fun _ _ _ h => h) (Or.inl ⟨by rfl, ?_⟩) ?_ ?_
  rotate_left
  · intro w'
    go_simp
    with_reducible rfl
  rotate_left
  · simp only [Act.put, List.setIfInBounds_toArray, List.set_cons_zero, List.set_cons_succ, i64_w, i32_w]
    rfl
  refine pure_ (i := 7) (N := (some 114)) (v := ?_) (a' := ?_) #[true, true, true, true, true, true, true, true, false, false, false, false, false, false] rfl rfl (by kernel_rfl) (fun _ _ _ h => h) (Or.inl ⟨by rfl, ?_⟩) ?_ ?_
  rotate_left
  · intro w'
    go_simp
    with_reducible rfl
  rotate_left
  · simp only [Act.put, List.setIfInBounds_toArray, List.set_cons_zero, List.set_cons_succ, i64_w, i32_w]
    rfl
  refine take_ (i := 8) (N := (some 115)) (v := ?_) (a' := ?_) #[true, true, true, true, true, true, true, true, true, false, false, false, false, false] rfl rfl (by kernel_rfl) (fun _ _ _ h => h) (Or.inl ⟨by rfl, ?_⟩) hHeld ?_ ?_
  rotate_left
  · rintro w' s0
    have x := (blk_cell s0 43).trans (show _ = some (.int .i64 mode) from rfl)
    have x2 := (blk_cell s0 44).trans (show _ = some (.int .i64 since) from rfl)
    go_simp
    with_reducible rfl
  rotate_left
  · simp only [Act.put, List.setIfInBounds_toArray, List.set_cons_zero, List.set_cons_succ, i64_w, i32_w]
    rfl
  refine pure_ (i := 10) (N := (some 117)) (v := ?_) (a' := ?_) #[true, true, true, true, true, true, true, true, true, false, true, false, false, false] rfl rfl (by kernel_rfl) (fun _ _ _ h => h) (Or.inl ⟨by rfl, ?_⟩) ?_ ?_
  rotate_left
  · intro w'
    go_simp
    with_reducible rfl
  rotate_left
  · simp only [Act.put, List.setIfInBounds_toArray, List.set_cons_zero, List.set_cons_succ, i64_w, i32_w]
    rfl
  refine one_ (i := 9) (N := (some 116)) #[true, true, true, true, true, true, true, true, true, true, true, false, false, false] rfl rfl (by kernel_rfl) (by decide) (fun K hK => ?_)
  refine goes_ Tryz.func29 (by kernel_rfl) rfl #[.agg #[.int .i64 mode, .int .i64 since]] (by rfl) rfl rfl (by (try simp only [List.map_toArray, List.map_cons, List.map_nil]); first | done | rfl) ?_
  refine (mode_Clock_Valid.calls mode since false Wj (valid_no HM.out)).mono ?_
  rintro e Wk ⟨rfl, hb⟩
  replace H := Aside0.mk (H.out.below hb)
  replace HT := Aside0.mk (blk_below HT.out hb)
  replace H4 := Aside0.mk (blk_below H4.out hb)
  replace H5 := Aside0.mk (blk_below H5.out hb)
  replace HK := Aside0.mk (HK.out.below hb)
  clear hb hHeld
  refine ⟨_, rfl, ?_⟩
  refine hK.out _ _ H.out.hg (fun hHeld => ?_)
  clear hK K
  refine norm_ (a' := ?_) ?_ ?_
  rotate_left
  · show Act.put _ (some 116) _ = _
    simp only [Act.put, List.setIfInBounds_toArray, List.set_cons_zero, List.set_cons_succ, i64_w, i32_w]
    rfl
  have z0 : Wk.cell? ⟨b5, 0, none⟩ = some (.int .i64 0) := (blk_cell H5.out 0).trans rfl
  have e0 := blk_frozen H5.out 0
  refine one_ (i := 11) (N := none) #[true, true, true, true, true, true, true, true, true, true, true, true, false, false] rfl rfl (by kernel_rfl) (by decide) (fun K hK => ?_)
  refine skip_ (w1 := Wk.setCell ⟨b5, 0, none⟩ (.int .i64 mode)) (by rfl) rfl (by first | (go_simp; done) | (go_simp; rfl)) ?_
  clear z0 e0 hHeld
  have q5 := (blk_set H5.out 0 (.int .i64 mode)).trans (show _ = some (Obj.cells (toldV mode false false false hd false 0 0 0) 39 (0, 0)) by kernel_rfl)
  replace H := Aside0.mk (H.out.far H5.out g5 0 (.int .i64 mode))
  replace HT := Aside0.mk (blk_far HT.out (p := ⟨b5, 0, none⟩) n35 (.int .i64 mode))
  replace H4 := Aside0.mk (blk_far H4.out (p := ⟨b5, 0, none⟩) n45 (.int .i64 mode))
  replace HK := Aside0.mk (HK.out.setCell (p := ⟨b5, 0, none⟩) (.inr l5) (.int .i64 mode))
  replace H5 := Aside0.mk q5
  clear q5
  generalize Wk.setCell ⟨b5, 0, none⟩ (.int .i64 mode) = Wl at H HT H4 H5 HK ⊢
  refine hK.out _ _ H.out.hg (fun hHeld => ?_)
  clear hK K
  refine pure_ (i := 12) (N := (some 118)) (v := ?_) (a' := ?_) #[true, true, true, true, true, true, true, true, true, true, true, true, true, false] rfl rfl (by kernel_rfl) (fun _ _ _ h => h) (Or.inl ⟨by rfl, ?_⟩) ?_ ?_
  rotate_left
  · intro w'
    go_simp
    with_reducible rfl
  rotate_left
  · simp only [Act.put, List.setIfInBounds_toArray, List.set_cons_zero, List.set_cons_succ, i64_w, i32_w]
    rfl
  have z1 : Wl.cell? ⟨b5, 1, none⟩ = some (.bool false) := (blk_cell H5.out 1).trans rfl
  have e1 := blk_frozen H5.out 1
  refine one_ (i := 13) (N := none) #[true, true, true, true, true, true, true, true, true, true, true, true, true, true] rfl rfl (by kernel_rfl) (by decide) (fun K hK => ?_)
  refine skip_ (w1 := Wl.setCell ⟨b5, 1, none⟩ (.bool false)) (by rfl) rfl (by first | (go_simp; done) | (go_simp; rfl)) ?_
  clear z1 e1 hHeld
  have q5 := (blk_set H5.out 1 (.bool false)).trans (show _ = some (Obj.cells (toldV mode false false false hd false 0 0 0) 39 (0, 0)) by kernel_rfl)
  replace H := Aside0.mk (H.out.far H5.out g5 1 (.bool false))
  replace HT := Aside0.mk (blk_far HT.out (p := ⟨b5, 1, none⟩) n35 (.bool false))
  replace H4 := Aside0.mk (blk_far H4.out (p := ⟨b5, 1, none⟩) n45 (.bool false))
  replace HK := Aside0.mk (HK.out.setCell (p := ⟨b5, 1, none⟩) (.inr l5) (.bool false))
  replace H5 := Aside0.mk q5
  clear q5
  generalize Wl.setCell ⟨b5, 1, none⟩ (.bool false) = Wm at H HT H4 H5 HK ⊢
  refine hK.out _ _ H.out.hg (fun hHeld => ?_)
  clear hK K
  refine done_ (by kernel_rfl) ?_
  have z1 : Wm.cell? ⟨b5, 1, none⟩ = some (.bool false) := (blk_cell H5.out 1).trans rfl
  go_upto_region 23 with fail
  have z0 : Wm.cell? ⟨b5, 0, none⟩ = some (.int .i64 mode) := (blk_cell H5.out 0).trans rfl
  have y0 : Wm.cell? ⟨b4, 0, none⟩ = some (.int .i64 0) := (blk_cell H4.out 0).trans rfl
  have f0 := blk_frozen H4.out 0
  have z1 : Wm.cell? ⟨b5, 1, none⟩ = some (.bool false) := (blk_cell H5.out 1).trans rfl
  have y1 : Wm.cell? ⟨b4, 1, none⟩ = some (.bool false) := (blk_cell H4.out 1).trans rfl
  have f1 := blk_frozen H4.out 1
  have z2 : Wm.cell? ⟨b5, 2, none⟩ = some (.bool false) := (blk_cell H5.out 2).trans rfl
  have y2 : Wm.cell? ⟨b4, 2, none⟩ = some (.bool false) := (blk_cell H4.out 2).trans rfl
  have f2 := blk_frozen H4.out 2
  have z3 : Wm.cell? ⟨b5, 3, none⟩ = some (.bool false) := (blk_cell H5.out 3).trans rfl
  have y3 : Wm.cell? ⟨b4, 3, none⟩ = some (.bool false) := (blk_cell H4.out 3).trans rfl
  have f3 := blk_frozen H4.out 3
  have z4 : Wm.cell? ⟨b5, 4, none⟩ = some (.bool hd) := (blk_cell H5.out 4).trans rfl
  have y4 : Wm.cell? ⟨b4, 4, none⟩ = some (.bool false) := (blk_cell H4.out 4).trans rfl
  have f4 := blk_frozen H4.out 4
  have z5 : Wm.cell? ⟨b5, 5, none⟩ = some (.bool false) := (blk_cell H5.out 5).trans rfl
  have y5 : Wm.cell? ⟨b4, 5, none⟩ = some (.bool false) := (blk_cell H4.out 5).trans rfl
  have f5 := blk_frozen H4.out 5
  have z6 : Wm.cell? ⟨b5, 6, none⟩ = some (.int .i64 0) := (blk_cell H5.out 6).trans rfl
  have y6 : Wm.cell? ⟨b4, 6, none⟩ = some (.int .i64 0) := (blk_cell H4.out 6).trans rfl
  have f6 := blk_frozen H4.out 6
  have z7 : Wm.cell? ⟨b5, 7, none⟩ = some (.int .i64 0) := (blk_cell H5.out 7).trans rfl
  have y7 : Wm.cell? ⟨b4, 7, none⟩ = some (.int .i64 0) := (blk_cell H4.out 7).trans rfl
  have f7 := blk_frozen H4.out 7
  have z8 : Wm.cell? ⟨b5, 8, none⟩ = some (.int .i64 0) := (blk_cell H5.out 8).trans rfl
  have y8 : Wm.cell? ⟨b4, 8, none⟩ = some (.int .i64 0) := (blk_cell H4.out 8).trans rfl
  have f8 := blk_frozen H4.out 8
  obtain ⟨q4, qh, qk⟩ := H.out.told H4.out g4 l4 HK.out mode false false false hd false 0 0 0
  go_wp2_with fail
  generalize ((((((((Wm.setCell ⟨b4, 0, none⟩ (.int .i64 mode)).setCell ⟨b4, 1, none⟩ (.bool false)).setCell ⟨b4, 2, none⟩ (.bool false)).setCell ⟨b4, 3, none⟩ (.bool false)).setCell ⟨b4, 4, none⟩ (.bool hd)).setCell ⟨b4, 5, none⟩ (.bool false)).setCell ⟨b4, 6, none⟩ (.int .i64 0)).setCell ⟨b4, 7, none⟩ (.int .i64 0)).setCell ⟨b4, 8, none⟩ (.int .i64 0) = Wz at q4 qh qk ⊢
  refine bodyPost_ret (results_cell_row rfl _ _ b4 39 (toldV mode false false false hd false 0 0 0) (0, 0) _ rfl q4 Tryz.underlying39 rfl (by kernel_rfl)) rfl ?_
  refine ⟨v', by rw [← HHD.out], ?_, qk⟩
  rw [← HTH.out, ← HRN.out]
  exact qh
set_option maxRecDepth 100000 in
set_option maxHeartbeats 8000000 in
theorem step_last (w0 w : World) (g f gr : Nat) (s : Gs) (c : Cf) (v : Value) (mode since last run band noise rough count : Int) (known : Bool) (l : List Int) (a p : Int) (sh : Bool)
    (h : Chan w0 w g f gr s c v mode since last run band noise rough count known l) (hck : checkR c = 0) (hm : mode = 0 ∨ mode = 3) (hp : good p = true) (hlo : inLost c run a = false) (hl : l.length = 15) (m o : Int) (hmean : mean_Of.f 20 (l ++ [p]) = some (m, 0)) (hgm : good m = true) (hT : Tab w0) (hkn : known = false)
    (hO : ∀ w, Calls Tryz.prog 30 #[.int .i64 (alt m)] w fun e w' => e = .returned (.int .i64 o) ∧ Below w.heap.size w w') :
    Calls Tryz.prog 10 #[.pointer (some ⟨g, 0, none⟩), .agg #[.int .i64 a, .bool true, .int .i64 p, .bool sh]] w fun e w' => ∃ v', e = .returned (.agg (toldV 1 true true false (clipped c a) false o 0 0)) ∧ Chan w0 w' g f gr ⟨alt m, 0, 0, c.s0, 0, 0, c.s1, 0, c.s2⟩ c v' 1 0 (inT c last a) (inRun c run a) band noise rough m true [] ∧ Kept w w' (fun k => k = g ∨ k = f ∨ k = gr ∨ v.ownBlock = some k) := by
  have HO := Aside0.mk hO
  have HME := Aside0.mk hmean
  have HGM := Aside0.mk hgm
  have HTB := Aside0.mk hT
  have HKN := Aside0.mk hkn
  have HLE := Aside0.mk hl
  clear hO hmean hgm hT hkn hl
  have HC := Aside0.mk hck
  have HM := Aside0.mk hm
  have HGP := Aside0.mk hp
  have HLO := Aside0.mk hlo
  clear hck hm hp hlo
  go_enter Tryz.func10, Tryz.ntmps10
  go_upto_region 2 with fail
  obtain ⟨x3, x4, x5, hB⟩ := blocks3 w #[.int .i64 a, .bool true, .int .i64 p, .bool sh] (toldV 0 false false false false false 0 0 0) (toldV 0 false false false false false 0 0 0) 37 39 39
  have H := Aside0.mk (h.below hB)
  have HK := Aside0.mk (Kept.of_below hB (fun k => k = g ∨ k = f ∨ k = gr ∨ v.ownBlock = some k))
  obtain ⟨b3, h3⟩ : ∃ b, b = w.heap.size := ⟨_, rfl⟩
  obtain ⟨b4, h4⟩ : ∃ b, b = w.heap.size + 1 := ⟨_, rfl⟩
  obtain ⟨b5, h5⟩ : ∃ b, b = w.heap.size + 1 + 1 := ⟨_, rfl⟩
  have n35 : b3 ≠ b5 := by omega
  have n45 : b4 ≠ b5 := by omega
  have l4 : w.heap.size ≤ b4 := by omega
  have l5 : w.heap.size ≤ b5 := by omega
  have g4 : w0.heap.size ≤ b4 := Nat.le_trans h.hb.size l4
  have g5 : w0.heap.size ≤ b5 := Nat.le_trans h.hb.size l5
  rw [show w.heap.size + 2 = w.heap.size + 1 + 1 from rfl, ← h5, ← h4, ← h3]
  rw [← h5] at x5
  rw [← h4] at x4
  rw [← h3] at x3
  have HT := Aside0.mk x3
  have H4 := Aside0.mk x4
  have H5 := Aside0.mk x5
  clear x3 x4 x5 hB h3 h4 h5 h
  unfold toldV at H HT H4 H5 HK
  generalize ((w.alloc (.cells #[.int .i64 a, .bool true, .int .i64 p, .bool sh] 37)).alloc (.cells #[.int .i64 0, .bool false, .bool false, .bool false, .bool false, .bool false, .int .i64 0, .int .i64 0, .int .i64 0] 39)).alloc (.cells #[.int .i64 0, .bool false, .bool false, .bool false, .bool false, .bool false, .int .i64 0, .int .i64 0, .int .i64 0] 39) = W0 at H HT H4 H5 HK ⊢
  refine start_ (n := 14) (S := fun w' => w'.heap[g]? = some (.cells (chanV s c f gr v mode since) 56 (0, 0)) ∧ w'.heap[b3]? = some (.cells #[.int .i64 a, .bool true, .int .i64 p, .bool sh] 37 (0, 0))) (ds := []) #[false, false, false, false, false, false, false, false, false, false, false, false, false, false] (by kernel_rfl) rfl rfl ⟨H.out.hg, HT.out⟩ (fun hHeld => ?_)
  replace H := Aside0.mk (H.out.drewN 1)
  replace HT := Aside0.mk (blk_drew HT.out)
  replace H4 := Aside0.mk (blk_drew H4.out)
  replace H5 := Aside0.mk (blk_drew H5.out)
  replace HK := Aside0.mk HK.out.drew
  change Aside0 (Chan w0 W0.drew _ _ _ _ _ _ _ _ _ _ _ _ _ _ _ _) at H
  generalize W0.drew = Wd at H HT H4 H5 HK hHeld ⊢
  refine pure_ (i := 0) (N := (some 14)) (v := ?_) (a' := ?_) #[true, false, false, false, false, false, false, false, false, false, false, false, false, false] rfl rfl (by kernel_rfl) (fun _ _ _ h => h) (Or.inl ⟨by rfl, ?_⟩) ?_ ?_
  rotate_left
  · intro w'
    go_simp
    with_reducible rfl
  rotate_left
  · simp only [Act.put, List.setIfInBounds_toArray, List.set_cons_zero, List.set_cons_succ, i64_w, i32_w]
    rfl
  refine pure_ (i := 1) (N := (some 15)) (v := ?_) (a' := ?_) #[true, true, false, false, false, false, false, false, false, false, false, false, false, false] rfl rfl (by kernel_rfl) (fun _ _ _ h => h) (Or.inl ⟨by rfl, ?_⟩) ?_ ?_
  rotate_left
  · intro w'
    go_simp
    with_reducible rfl
  rotate_left
  · simp only [Act.put, List.setIfInBounds_toArray, List.set_cons_zero, List.set_cons_succ, i64_w, i32_w]
    rfl
  refine pure_ (i := 2) (N := (some 16)) (v := ?_) (a' := ?_) #[true, true, true, false, false, false, false, false, false, false, false, false, false, false] rfl rfl (by kernel_rfl) (fun _ _ _ h => h) (Or.inl ⟨by rfl, ?_⟩) ?_ ?_
  rotate_left
  · intro w'
    go_simp
    with_reducible rfl
  rotate_left
  · simp only [Act.put, List.setIfInBounds_toArray, List.set_cons_zero, List.set_cons_succ, i64_w, i32_w]
    rfl
  refine take_ (i := 3) (N := (some 17)) (v := ?_) (a' := ?_) #[true, true, true, true, false, false, false, false, false, false, false, false, false, false] rfl rfl (by kernel_rfl) (fun _ _ _ h => h) (Or.inl ⟨by rfl, ?_⟩) hHeld ?_ ?_
  rotate_left
  · rintro w' ⟨s0, s1⟩
    have x := (blk_cell s0 40).trans (show _ = some (.pointer (some ⟨f, 0, none⟩)) from rfl)
    go_simp
    with_reducible rfl
  rotate_left
  · simp only [Act.put, List.setIfInBounds_toArray, List.set_cons_zero, List.set_cons_succ, i64_w, i32_w]
    rfl
  refine pure_ (i := 4) (N := (some 18)) (v := ?_) (a' := ?_) #[true, true, true, true, true, false, false, false, false, false, false, false, false, false] rfl rfl (by kernel_rfl) (fun _ _ _ h => h) (Or.inl ⟨by rfl, ?_⟩) ?_ ?_
  rotate_left
  · intro w'
    go_simp
    with_reducible rfl
  rotate_left
  · simp only [Act.put, List.setIfInBounds_toArray, List.set_cons_zero, List.set_cons_succ, i64_w, i32_w]
    rfl
  refine take_ (i := 5) (N := (some 19)) (v := ?_) (a' := ?_) #[true, true, true, true, true, true, false, false, false, false, false, false, false, false] rfl rfl (by kernel_rfl) (fun _ _ _ h => h) (Or.inl ⟨by rfl, ?_⟩) hHeld ?_ ?_
  rotate_left
  · rintro w' ⟨s0, s1⟩
    have x := (blk_cell s1 0).trans (show _ = some (.int .i64 a) from rfl)
    go_simp
    with_reducible rfl
  rotate_left
  · simp only [Act.put, List.setIfInBounds_toArray, List.set_cons_zero, List.set_cons_succ, i64_w, i32_w]
    rfl
  refine one_ (i := 6) (N := (some 20)) #[true, true, true, true, true, true, true, false, false, false, false, false, false, false] rfl rfl (by kernel_rfl) (by decide) (fun K hK => ?_)
  refine goes_ Tryz.func22 (by kernel_rfl) rfl #[.pointer (some ⟨f, 0, none⟩), .int .i64 a] (by rfl) rfl rfl (by (try simp only [List.map_toArray, List.map_cons, List.map_nil]); first | done | rfl) ?_
  refine (in_any w0 Wd f c last run a H.out.hf H.out.f0 H.out.hb HC.out).mono ?_
  rintro e W1 ⟨rfl, hF, hB, hk⟩
  replace HT := Aside0.mk (hk.blk HT.out (blk_ne HT.out H.out.hf (by decide)) (by simp))
  replace H4 := Aside0.mk (hk.blk H4.out (blk_ne H4.out H.out.hf (by decide)) (by simp))
  replace H5 := Aside0.mk (hk.blk H5.out (blk_ne H5.out H.out.hf (by decide)) (by simp))
  replace HK := Aside0.mk (HK.out.of_keep hk (.inl (.inr (.inl rfl))))
  replace H := Aside0.mk (H.out.fed hF hB hk)
  rw [HLO.out]
  clear hF hB hk hHeld
  refine ⟨_, rfl, ?_⟩
  refine hK.out _ _ ⟨H.out.hg, HT.out⟩ (fun hHeld => ?_)
  clear hK K
  refine norm_ (a' := ?_) ?_ ?_
  rotate_left
  · show Act.put _ (some 20) _ = _
    simp only [Act.put, List.setIfInBounds_toArray, List.set_cons_zero, List.set_cons_succ, i64_w, i32_w]
    rfl
  refine pure_ (i := 7) (N := (some 13)) (v := ?_) (a' := ?_) #[true, true, true, true, true, true, true, true, false, false, false, false, false, false] rfl rfl (by kernel_rfl) (fun _ _ _ h => h) (Or.inl ⟨by rfl, ?_⟩) ?_ ?_
  rotate_left
  · intro w'
    go_simp
    with_reducible rfl
  rotate_left
  · simp only [Act.put, List.setIfInBounds_toArray, List.set_cons_zero, List.set_cons_succ, i64_w, i32_w]
    rfl
  refine pure_ (i := 8) (N := (some 21)) (v := ?_) (a' := ?_) #[true, true, true, true, true, true, true, true, true, false, false, false, false, false] rfl rfl (by kernel_rfl) (fun _ _ _ h => h) (Or.inl ⟨by rfl, ?_⟩) ?_ ?_
  rotate_left
  · intro w'
    go_simp
    with_reducible rfl
  rotate_left
  · simp only [Act.put, List.setIfInBounds_toArray, List.set_cons_zero, List.set_cons_succ, i64_w, i32_w]
    rfl
  refine pure_ (i := 9) (N := (some 22)) (v := ?_) (a' := ?_) #[true, true, true, true, true, true, true, true, true, true, false, false, false, false] rfl rfl (by kernel_rfl) (fun _ _ _ h => h) (Or.inl ⟨by rfl, ?_⟩) ?_ ?_
  rotate_left
  · intro w'
    go_simp
    with_reducible rfl
  rotate_left
  · simp only [Act.put, List.setIfInBounds_toArray, List.set_cons_zero, List.set_cons_succ, i64_w, i32_w]
    rfl
  refine pure_ (i := 10) (N := (some 23)) (v := ?_) (a' := ?_) #[true, true, true, true, true, true, true, true, true, true, true, false, false, false] rfl rfl (by kernel_rfl) (fun _ _ _ h => h) (Or.inl ⟨by rfl, ?_⟩) ?_ ?_
  rotate_left
  · intro w'
    go_simp
    with_reducible rfl
  rotate_left
  · simp only [Act.put, List.setIfInBounds_toArray, List.set_cons_zero, List.set_cons_succ, i64_w, i32_w]
    rfl
  refine pure_ (i := 11) (N := (some 6)) (v := ?_) (a' := ?_) #[true, true, true, true, true, true, true, true, true, true, true, true, false, false] rfl rfl (by kernel_rfl) (fun _ _ _ h => h) (Or.inl ⟨by rfl, ?_⟩) ?_ ?_
  rotate_left
  · intro w'
    go_simp
    with_reducible rfl
  rotate_left
  · simp only [Act.put, List.setIfInBounds_toArray, List.set_cons_zero, List.set_cons_succ, i64_w, i32_w]
    rfl
  refine pure_ (i := 12) (N := (some 7)) (v := ?_) (a' := ?_) #[true, true, true, true, true, true, true, true, true, true, true, true, true, false] rfl rfl (by kernel_rfl) (fun _ _ _ h => h) (Or.inl ⟨by rfl, ?_⟩) ?_ ?_
  rotate_left
  · intro w'
    go_simp
    with_reducible rfl
  rotate_left
  · simp only [Act.put, List.setIfInBounds_toArray, List.set_cons_zero, List.set_cons_succ, i64_w, i32_w]
    rfl
  refine pure_ (i := 13) (N := (some 8)) (v := ?_) (a' := ?_) #[true, true, true, true, true, true, true, true, true, true, true, true, true, true] rfl rfl (by kernel_rfl) (fun _ _ _ h => h) (Or.inl ⟨by rfl, ?_⟩) ?_ ?_
  rotate_left
  · intro w'
    go_simp
    with_reducible rfl
  rotate_left
  · simp only [Act.put, List.setIfInBounds_toArray, List.set_cons_zero, List.set_cons_succ, i64_w, i32_w]
    rfl
  refine done_ (by kernel_rfl) ?_
  obtain ⟨th, hth⟩ : ∃ th, th = inT c last a := ⟨_, rfl⟩
  obtain ⟨rn, hrn⟩ : ∃ rn, rn = inRun c run a := ⟨_, rfl⟩
  obtain ⟨hd, hhd⟩ : ∃ hd, hd = clipped c a := ⟨_, rfl⟩
  rw [← hth, ← hhd]
  rw [← hth, ← hrn] at H
  have HTH := Aside0.mk hth
  have HRN := Aside0.mk hrn
  have HHD := Aside0.mk hhd
  clear hth hrn hhd
  have x0 : W1.cell? ⟨b3, 0, none⟩ = some (.int .i64 a) := (blk_cell HT.out 0).trans rfl
  have x1 : W1.cell? ⟨b3, 1, none⟩ = some (.bool true) := (blk_cell HT.out 1).trans rfl
  have x2 : W1.cell? ⟨b3, 2, none⟩ = some (.int .i64 p) := (blk_cell HT.out 2).trans rfl
  have x3 : W1.cell? ⟨b3, 3, none⟩ = some (.bool sh) := (blk_cell HT.out 3).trans rfl
  go_wp2_with fail
  refine (baro_Brings.calls a true p sh p true W1 (brings_yes a p sh HGP.out)).mono ?_
  rintro e W2 ⟨rfl, hb⟩
  replace H := Aside0.mk (H.out.below hb)
  replace HT := Aside0.mk (blk_below HT.out hb)
  replace H4 := Aside0.mk (blk_below H4.out hb)
  replace H5 := Aside0.mk (blk_below H5.out hb)
  replace HK := Aside0.mk (HK.out.below hb)
  clear hb x0 x1 x2 x3
  have z4 : W2.cell? ⟨b5, 4, none⟩ = some (.bool false) := (blk_cell H5.out 4).trans rfl
  have e4 := blk_frozen H5.out 4
  go_upto_region 5 with fail
  clear z4 e4
  have q5 := (blk_set H5.out 4 (.bool hd)).trans (show _ = some (Obj.cells (toldV 0 false false false hd false 0 0 0) 39 (0, 0)) by kernel_rfl)
  replace H := Aside0.mk (H.out.far H5.out g5 4 (.bool hd))
  replace HT := Aside0.mk (blk_far HT.out (p := ⟨b5, 4, none⟩) n35 (.bool hd))
  replace H4 := Aside0.mk (blk_far H4.out (p := ⟨b5, 4, none⟩) n45 (.bool hd))
  replace HK := Aside0.mk (HK.out.setCell (p := ⟨b5, 4, none⟩) (.inr l5) (.bool hd))
  replace H5 := Aside0.mk q5
  clear q5
  generalize W2.setCell ⟨b5, 4, none⟩ (.bool hd) = W3 at H HT H4 H5 HK ⊢
  have y43 : W3.cell? ⟨g, 43, none⟩ = some (.int .i64 mode) := (blk_cell H.out.hg 43).trans rfl
  have y44 : W3.cell? ⟨g, 44, none⟩ = some (.int .i64 since) := (blk_cell H.out.hg 44).trans rfl
  go_wp2_with fail
  refine (mode_Clock_Seeks.calls mode since true W3 (seeks_yes HM.out)).mono ?_
  rintro e W4 ⟨rfl, hb⟩
  replace H := Aside0.mk (H.out.below hb)
  replace HT := Aside0.mk (blk_below HT.out hb)
  replace H4 := Aside0.mk (blk_below H4.out hb)
  replace H5 := Aside0.mk (blk_below H5.out hb)
  replace HK := Aside0.mk (HK.out.below hb)
  clear hb y43 y44
  go_wp2_with fail
  refine (seek_last w0 W4 g f gr s c v mode since th rn band noise rough count known l p H.out HLE.out m HME.out HGM.out HTB.out HKN.out).mono ?_
  rintro e Wx ⟨v', rfl, hH, hk⟩
  have k5 := blk_kept H5.out hk (fun hS => by rcases hS with e | e | e; exact blk_ne H5.out H.out.hg (by decide) e; exact (H.out.hi.ne_blk H5.out (by decide)) e.symm; exact (Kd.R_ne H.out.hr H5.out (by decide)) e.symm)
  have k4 := blk_kept H4.out hk (fun hS => by rcases hS with e | e | e; exact blk_ne H4.out H.out.hg (by decide) e; exact (H.out.hi.ne_blk H4.out (by decide)) e.symm; exact (Kd.R_ne H.out.hr H4.out (by decide)) e.symm)
  have k3 := blk_kept HT.out hk (fun hS => by rcases hS with e | e | e; exact blk_ne HT.out H.out.hg (by decide) e; exact (H.out.hi.ne_blk HT.out (by decide)) e.symm; exact (Kd.R_ne H.out.hr HT.out (by decide)) e.symm)
  replace HK := Aside0.mk (HK.out.then_ hk (fun k hS => by rcases hS with e | e | e; exact .inl (.inl e); exact .inl (.inr (.inr (.inl e))); exact .inl (.inr (.inr (.inr e)))))
  replace H5 := Aside0.mk k5
  replace H4 := Aside0.mk k4
  replace HT := Aside0.mk k3
  replace H := Aside0.mk hH
  clear hk hH k3 k4 k5
  have z2 : Wx.cell? ⟨b5, 2, none⟩ = some (.bool false) := (blk_cell H5.out 2).trans rfl
  have e2 := blk_frozen H5.out 2
  go_upto_region 17 with fail
  clear z2 e2
  have q5 := (blk_set H5.out 2 (.bool true)).trans (show _ = some (Obj.cells (toldV 0 false true false hd false 0 0 0) 39 (0, 0)) by kernel_rfl)
  replace H := Aside0.mk (H.out.far H5.out g5 2 (.bool true))
  replace HT := Aside0.mk (blk_far HT.out (p := ⟨b5, 2, none⟩) n35 (.bool true))
  replace H4 := Aside0.mk (blk_far H4.out (p := ⟨b5, 2, none⟩) n45 (.bool true))
  replace HK := Aside0.mk (HK.out.setCell (p := ⟨b5, 2, none⟩) (.inr l5) (.bool true))
  replace H5 := Aside0.mk q5
  clear q5
  generalize Wx.setCell ⟨b5, 2, none⟩ (.bool true) = Wy at H HT H4 H5 HK ⊢
  refine start_ (n := 20) (S := fun w' => w'.cell? ⟨g, 37, none⟩ = some (.int .i64 c.coast) ∧ w'.cell? ⟨g, 38, none⟩ = some (.int .i64 c.out)) (ds := []) #[false, false, false, false, false, false, false, false, false, false, false, false, false, false, false, false, false, false, false, false] (by kernel_rfl) rfl rfl ⟨(blk_cell H.out.hg 37).trans rfl, (blk_cell H.out.hg 38).trans rfl⟩ (fun hHeld => ?_)
  replace H := Aside0.mk (H.out.drewN 1)
  replace HT := Aside0.mk (blk_drew HT.out)
  replace H4 := Aside0.mk (blk_drew H4.out)
  replace H5 := Aside0.mk (blk_drew H5.out)
  replace HK := Aside0.mk HK.out.drew
  change Aside0 (Chan w0 Wy.drew _ _ _ _ _ _ _ _ _ _ _ _ _ _ _ _) at H
  generalize Wy.drew = We at H HT H4 H5 HK hHeld ⊢
  refine pure_ (i := 0) (N := (some 68)) (v := ?_) (a' := ?_) #[true, false, false, false, false, false, false, false, false, false, false, false, false, false, false, false, false, false, false, false] rfl rfl (by kernel_rfl) (fun _ _ _ h => h) (Or.inl ⟨by rfl, ?_⟩) ?_ ?_
  rotate_left
  · intro w'
    go_simp
    with_reducible rfl
  rotate_left
  · simp only [Act.put, List.setIfInBounds_toArray, List.set_cons_zero, List.set_cons_succ, i64_w, i32_w]
    rfl
  refine pure_ (i := 1) (N := (some 69)) (v := ?_) (a' := ?_) #[true, true, false, false, false, false, false, false, false, false, false, false, false, false, false, false, false, false, false, false] rfl rfl (by kernel_rfl) (fun _ _ _ h => h) (Or.inl ⟨by rfl, ?_⟩) ?_ ?_
  rotate_left
  · intro w'
    go_simp
    with_reducible rfl
  rotate_left
  · simp only [Act.put, List.setIfInBounds_toArray, List.set_cons_zero, List.set_cons_succ, i64_w, i32_w]
    rfl
  refine pure_ (i := 2) (N := (some 70)) (v := ?_) (a' := ?_) #[true, true, true, false, false, false, false, false, false, false, false, false, false, false, false, false, false, false, false, false] rfl rfl (by kernel_rfl) (fun _ _ _ h => h) (Or.inl ⟨by rfl, ?_⟩) ?_ ?_
  rotate_left
  · intro w'
    go_simp
    with_reducible rfl
  rotate_left
  · simp only [Act.put, List.setIfInBounds_toArray, List.set_cons_zero, List.set_cons_succ, i64_w, i32_w]
    rfl
  refine pure_ (i := 3) (N := (some 71)) (v := ?_) (a' := ?_) #[true, true, true, true, false, false, false, false, false, false, false, false, false, false, false, false, false, false, false, false] rfl rfl (by kernel_rfl) (fun _ _ _ h => h) (Or.inl ⟨by rfl, ?_⟩) ?_ ?_
  rotate_left
  · intro w'
    go_simp
    with_reducible rfl
  rotate_left
  · simp only [Act.put, List.setIfInBounds_toArray, List.set_cons_zero, List.set_cons_succ, i64_w, i32_w]
    rfl
  refine pure_ (i := 5) (N := (some 73)) (v := ?_) (a' := ?_) #[true, true, true, true, false, true, false, false, false, false, false, false, false, false, false, false, false, false, false, false] rfl rfl (by kernel_rfl) (fun _ _ _ h => h) (Or.inl ⟨by rfl, ?_⟩) ?_ ?_
  rotate_left
  · intro w'
    go_simp
    with_reducible rfl
  rotate_left
  · simp only [Act.put, List.setIfInBounds_toArray, List.set_cons_zero, List.set_cons_succ, i64_w, i32_w]
    rfl
  refine pure_ (i := 6) (N := (some 74)) (v := ?_) (a' := ?_) #[true, true, true, true, false, true, true, false, false, false, false, false, false, false, false, false, false, false, false, false] rfl rfl (by kernel_rfl) (fun _ _ _ h => h) (Or.inl ⟨by rfl, ?_⟩) ?_ ?_
  rotate_left
  · intro w'
    go_simp
    with_reducible rfl
  rotate_left
  · simp only [Act.put, List.setIfInBounds_toArray, List.set_cons_zero, List.set_cons_succ, i64_w, i32_w]
    rfl
  refine pure_ (i := 7) (N := (some 75)) (v := ?_) (a' := ?_) #[true, true, true, true, false, true, true, true, false, false, false, false, false, false, false, false, false, false, false, false] rfl rfl (by kernel_rfl) (fun _ _ _ h => h) (Or.inl ⟨by rfl, ?_⟩) ?_ ?_
  rotate_left
  · intro w'
    go_simp
    with_reducible rfl
  rotate_left
  · simp only [Act.put, List.setIfInBounds_toArray, List.set_cons_zero, List.set_cons_succ, i64_w, i32_w]
    rfl
  refine pure_ (i := 8) (N := (some 76)) (v := ?_) (a' := ?_) #[true, true, true, true, false, true, true, true, true, false, false, false, false, false, false, false, false, false, false, false] rfl rfl (by kernel_rfl) (fun _ _ _ h => h) (Or.inl ⟨by rfl, ?_⟩) ?_ ?_
  rotate_left
  · intro w'
    go_simp
    with_reducible rfl
  rotate_left
  · simp only [Act.put, List.setIfInBounds_toArray, List.set_cons_zero, List.set_cons_succ, i64_w, i32_w]
    rfl
  refine pure_ (i := 9) (N := (some 77)) (v := ?_) (a' := ?_) #[true, true, true, true, false, true, true, true, true, true, false, false, false, false, false, false, false, false, false, false] rfl rfl (by kernel_rfl) (fun _ _ _ h => h) (Or.inl ⟨by rfl, ?_⟩) ?_ ?_
  rotate_left
  · intro w'
    go_simp
    with_reducible rfl
  rotate_left
  · simp only [Act.put, List.setIfInBounds_toArray, List.set_cons_zero, List.set_cons_succ, i64_w, i32_w]
    rfl
  refine take_ (i := 10) (N := (some 78)) (v := ?_) (a' := ?_) #[true, true, true, true, false, true, true, true, true, true, true, false, false, false, false, false, false, false, false, false] rfl rfl (by kernel_rfl) (fun _ _ _ h => h) (Or.inl ⟨by rfl, ?_⟩) hHeld ?_ ?_
  rotate_left
  · rintro w' ⟨s0, s1⟩
    go_simp
    with_reducible rfl
  rotate_left
  · simp only [Act.put, List.setIfInBounds_toArray, List.set_cons_zero, List.set_cons_succ, i64_w, i32_w]
    rfl
  refine pure_ (i := 11) (N := (some 79)) (v := ?_) (a' := ?_) #[true, true, true, true, false, true, true, true, true, true, true, true, false, false, false, false, false, false, false, false] rfl rfl (by kernel_rfl) (fun _ _ _ h => h) (Or.inl ⟨by rfl, ?_⟩) ?_ ?_
  rotate_left
  · intro w'
    go_simp
    with_reducible rfl
  rotate_left
  · simp only [Act.put, List.setIfInBounds_toArray, List.set_cons_zero, List.set_cons_succ, i64_w, i32_w]
    rfl
  refine pure_ (i := 12) (N := (some 80)) (v := ?_) (a' := ?_) #[true, true, true, true, false, true, true, true, true, true, true, true, true, false, false, false, false, false, false, false] rfl rfl (by kernel_rfl) (fun _ _ _ h => h) (Or.inl ⟨by rfl, ?_⟩) ?_ ?_
  rotate_left
  · intro w'
    go_simp
    with_reducible rfl
  rotate_left
  · simp only [Act.put, List.setIfInBounds_toArray, List.set_cons_zero, List.set_cons_succ, i64_w, i32_w]
    rfl
  refine pure_ (i := 13) (N := (some 81)) (v := ?_) (a' := ?_) #[true, true, true, true, false, true, true, true, true, true, true, true, true, true, false, false, false, false, false, false] rfl rfl (by kernel_rfl) (fun _ _ _ h => h) (Or.inl ⟨by rfl, ?_⟩) ?_ ?_
  rotate_left
  · intro w'
    go_simp
    with_reducible rfl
  rotate_left
  · simp only [Act.put, List.setIfInBounds_toArray, List.set_cons_zero, List.set_cons_succ, i64_w, i32_w]
    rfl
  refine pure_ (i := 14) (N := (some 82)) (v := ?_) (a' := ?_) #[true, true, true, true, false, true, true, true, true, true, true, true, true, true, true, false, false, false, false, false] rfl rfl (by kernel_rfl) (fun _ _ _ h => h) (Or.inl ⟨by rfl, ?_⟩) ?_ ?_
  rotate_left
  · intro w'
    go_simp
    with_reducible rfl
  rotate_left
  · simp only [Act.put, List.setIfInBounds_toArray, List.set_cons_zero, List.set_cons_succ, i64_w, i32_w]
    rfl
  refine take_ (i := 15) (N := (some 83)) (v := ?_) (a' := ?_) #[true, true, true, true, false, true, true, true, true, true, true, true, true, true, true, true, false, false, false, false] rfl rfl (by kernel_rfl) (fun _ _ _ h => h) (Or.inl ⟨by rfl, ?_⟩) hHeld ?_ ?_
  rotate_left
  · rintro w' ⟨s0, s1⟩
    go_simp
    with_reducible rfl
  rotate_left
  · simp only [Act.put, List.setIfInBounds_toArray, List.set_cons_zero, List.set_cons_succ, i64_w, i32_w]
    rfl
  have y43 : We.cell? ⟨g, 43, none⟩ = some (.int .i64 mode) := (blk_cell H.out.hg 43).trans rfl
  have y44 : We.cell? ⟨g, 44, none⟩ = some (.int .i64 since) := (blk_cell H.out.hg 44).trans rfl
  refine one_ (i := 4) (N := (some 72)) #[true, true, true, true, true, true, true, true, true, true, true, true, true, true, true, true, false, false, false, false] rfl rfl (by kernel_rfl) (by decide) (fun K hK => ?_)
  refine event_step (v := .agg #[.int .i64 mode, .int .i64 since]) (w1 := We) (by rfl) (by first | (go_simp; done) | (go_simp; rfl)) ?_
  clear hHeld y43 y44
  refine hK.out _ _ ⟨(blk_cell H.out.hg 37).trans rfl, (blk_cell H.out.hg 38).trans rfl⟩ (fun hHeld => ?_)
  clear hK K
  refine norm_ (a' := ?_) ?_ ?_
  rotate_left
  · show Act.put _ (some 72) _ = _
    simp only [Act.put, List.setIfInBounds_toArray, List.set_cons_zero, List.set_cons_succ, i64_w, i32_w]
    rfl
  refine one_ (i := 16) (N := (some 84)) #[true, true, true, true, true, true, true, true, true, true, true, true, true, true, true, true, true, false, false, false] rfl rfl (by kernel_rfl) (by decide) (fun K hK => ?_)
  refine goes_ Tryz.func28 (by kernel_rfl) rfl #[.agg #[.int .i64 mode, .int .i64 since], .int .i64 0, .int .i64 c.coast, .int .i64 c.out] (by rfl) rfl rfl (by (try simp only [List.map_toArray, List.map_cons, List.map_nil]); first | done | rfl) ?_
  refine (mode_Clock_On.calls 5 mode since 0 c.coast c.out 1 0 We (on_enter HM.out)).mono ?_
  rintro e Wf ⟨rfl, hb⟩
  replace H := Aside0.mk (H.out.below hb)
  replace HT := Aside0.mk (blk_below HT.out hb)
  replace H4 := Aside0.mk (blk_below H4.out hb)
  replace H5 := Aside0.mk (blk_below H5.out hb)
  replace HK := Aside0.mk (HK.out.below hb)
  clear hb hHeld
  refine ⟨_, rfl, ?_⟩
  refine hK.out _ _ ⟨(blk_cell H.out.hg 37).trans rfl, (blk_cell H.out.hg 38).trans rfl⟩ (fun hHeld => ?_)
  clear hK K
  refine norm_ (a' := ?_) ?_ ?_
  rotate_left
  · show Act.put _ (some 84) _ = _
    simp only [Act.put, List.setIfInBounds_toArray, List.set_cons_zero, List.set_cons_succ, i64_w, i32_w]
    rfl
  refine pure_ (i := 17) (N := (some 85)) (v := ?_) (a' := ?_) #[true, true, true, true, true, true, true, true, true, true, true, true, true, true, true, true, true, true, false, false] rfl rfl (by kernel_rfl) (fun _ _ _ h => h) (Or.inl ⟨by rfl, ?_⟩) ?_ ?_
  rotate_left
  · intro w'
    go_simp
    with_reducible rfl
  rotate_left
  · simp only [Act.put, List.setIfInBounds_toArray, List.set_cons_zero, List.set_cons_succ, i64_w, i32_w]
    rfl
  refine pure_ (i := 18) (N := (some 86)) (v := ?_) (a' := ?_) #[true, true, true, true, true, true, true, true, true, true, true, true, true, true, true, true, true, true, true, false] rfl rfl (by kernel_rfl) (fun _ _ _ h => h) (Or.inl ⟨by rfl, ?_⟩) ?_ ?_
  rotate_left
  · intro w'
    go_simp
    with_reducible rfl
  rotate_left
  · simp only [Act.put, List.setIfInBounds_toArray, List.set_cons_zero, List.set_cons_succ, i64_w, i32_w]
    rfl
  have y43 : Wf.cell? ⟨g, 43, none⟩ = some (.int .i64 mode) := (blk_cell H.out.hg 43).trans rfl
  have f43 := blk_frozen H.out.hg 43
  have y44 : Wf.cell? ⟨g, 44, none⟩ = some (.int .i64 since) := (blk_cell H.out.hg 44).trans rfl
  have f44 := blk_frozen H.out.hg 44
  refine one_ (i := 19) (N := none) #[true, true, true, true, true, true, true, true, true, true, true, true, true, true, true, true, true, true, true, true] rfl rfl (by kernel_rfl) (by decide) (fun K hK => ?_)
  refine skip_ (w1 := (Wf.setCell ⟨g, 43, none⟩ (.int .i64 1)).setCell ⟨g, 44, none⟩ (.int .i64 0)) (by rfl) rfl (by first | (go_simp; done) | (go_simp; rfl)) ?_
  have n5 := blk_ne H5.out H.out.hg (by decide)
  have n4 := blk_ne H4.out H.out.hg (by decide)
  have n3 := blk_ne HT.out H.out.hg (by decide)
  have q := (H.out.set 43 (.int .i64 1) (s' := ⟨alt m, 0, 0, c.s0, 0, 0, c.s1, 0, c.s2⟩) (mode' := 1) (since' := since) (by kernel_rfl)).set 44 (.int .i64 0) (s' := ⟨alt m, 0, 0, c.s0, 0, 0, c.s1, 0, c.s2⟩) (mode' := 1) (since' := 0) (by kernel_rfl)
  replace HT := Aside0.mk (blk_far (blk_far HT.out (p := ⟨g, 43, none⟩) n3 (.int .i64 1)) (p := ⟨g, 44, none⟩) n3 (.int .i64 0))
  replace H4 := Aside0.mk (blk_far (blk_far H4.out (p := ⟨g, 43, none⟩) n4 (.int .i64 1)) (p := ⟨g, 44, none⟩) n4 (.int .i64 0))
  replace H5 := Aside0.mk (blk_far (blk_far H5.out (p := ⟨g, 43, none⟩) n5 (.int .i64 1)) (p := ⟨g, 44, none⟩) n5 (.int .i64 0))
  replace HK := Aside0.mk ((HK.out.setCell (p := ⟨g, 43, none⟩) (.inl (.inl rfl)) (.int .i64 1)).setCell (p := ⟨g, 44, none⟩) (.inl (.inl rfl)) (.int .i64 0))
  replace H := Aside0.mk q
  clear q hHeld y43 y44 f43 f44 n3 n4 n5
  generalize (Wf.setCell ⟨g, 43, none⟩ (.int .i64 1)).setCell ⟨g, 44, none⟩ (.int .i64 0) = Wg at H HT H4 H5 HK ⊢
  refine hK.out _ _ ⟨(blk_cell H.out.hg 37).trans rfl, (blk_cell H.out.hg 38).trans rfl⟩ (fun hHeld => ?_)
  clear hK K
  refine done_ (by kernel_rfl) ?_
  have y41 := (blk_cell H.out.hg 41).trans (show _ = some v' from rfl)
  have f41 := blk_frozen H.out.hg 41
  go_upto_region 20 with fail
  have n5 := blk_ne H5.out H.out.hg (by decide)
  have n4 := blk_ne H4.out H.out.hg (by decide)
  have n3 := blk_ne HT.out H.out.hg (by decide)
  replace HT := Aside0.mk (blk_far HT.out (p := ⟨g, 41, none⟩) n3 (.slice none 0 0))
  replace H4 := Aside0.mk (blk_far H4.out (p := ⟨g, 41, none⟩) n4 (.slice none 0 0))
  replace H5 := Aside0.mk (blk_far H5.out (p := ⟨g, 41, none⟩) n5 (.slice none 0 0))
  replace HK := Aside0.mk (HK.out.setCell (p := ⟨g, 41, none⟩) (.inl (.inl rfl)) (.slice none 0 0))
  replace H := Aside0.mk H.out.drop
  clear y41 f41 n3 n4 n5
  generalize Wg.setCell ⟨g, 41, none⟩ (.slice none 0 0) = Wi at H HT H4 H5 HK ⊢
  refine start_ (n := 14) (S := fun w' => w'.heap[g]? = some (.cells (chanV ⟨alt m, 0, 0, c.s0, 0, 0, c.s1, 0, c.s2⟩ c f gr (.slice none 0 0) 1 0) 56 (0, 0))) (ds := []) #[false, false, false, false, false, false, false, false, false, false, false, false, false, false] (by kernel_rfl) rfl rfl H.out.hg (fun hHeld => ?_)
  replace H := Aside0.mk (H.out.drewN 1)
  replace HT := Aside0.mk (blk_drew HT.out)
  replace H4 := Aside0.mk (blk_drew H4.out)
  replace H5 := Aside0.mk (blk_drew H5.out)
  replace HK := Aside0.mk HK.out.drew
  change Aside0 (Chan w0 Wi.drew _ _ _ _ _ _ _ _ _ _ _ _ _ _ _ _) at H
  generalize Wi.drew = Wj at H HT H4 H5 HK hHeld ⊢
  refine pure_ (i := 0) (N := (some 107)) (v := ?_) (a' := ?_) #[true, false, false, false, false, false, false, false, false, false, false, false, false, false] rfl rfl (by kernel_rfl) (fun _ _ _ h => h) (Or.inl ⟨by rfl, ?_⟩) ?_ ?_
  rotate_left
  · intro w'
    go_simp
    with_reducible rfl
  rotate_left
  · simp only [Act.put, List.setIfInBounds_toArray, List.set_cons_zero, List.set_cons_succ, i64_w, i32_w]
    rfl
  refine pure_ (i := 1) (N := (some 108)) (v := ?_) (a' := ?_) #[true, true, false, false, false, false, false, false, false, false, false, false, false, false] rfl rfl (by kernel_rfl) (fun _ _ _ h => h) (Or.inl ⟨by rfl, ?_⟩) ?_ ?_
  rotate_left
  · intro w'
    go_simp
    with_reducible rfl
  rotate_left
  · simp only [Act.put, List.setIfInBounds_toArray, List.set_cons_zero, List.set_cons_succ, i64_w, i32_w]
    rfl
  refine pure_ (i := 2) (N := (some 109)) (v := ?_) (a' := ?_) #[true, true, true, false, false, false, false, false, false, false, false, false, false, false] rfl rfl (by kernel_rfl) (fun _ _ _ h => h) (Or.inl ⟨by rfl, ?_⟩) ?_ ?_
  rotate_left
  · intro w'
    go_simp
    with_reducible rfl
  rotate_left
  · simp only [Act.put, List.setIfInBounds_toArray, List.set_cons_zero, List.set_cons_succ, i64_w, i32_w]
    rfl
  refine pure_ (i := 3) (N := (some 110)) (v := ?_) (a' := ?_) #[true, true, true, true, false, false, false, false, false, false, false, false, false, false] rfl rfl (by kernel_rfl) (fun _ _ _ h => h) (Or.inl ⟨by rfl, ?_⟩) ?_ ?_
  rotate_left
  · intro w'
    go_simp
    with_reducible rfl
  rotate_left
  · simp only [Act.put, List.setIfInBounds_toArray, List.set_cons_zero, List.set_cons_succ, i64_w, i32_w]
    rfl
  refine take_ (i := 4) (N := (some 111)) (v := ?_) (a' := ?_) #[true, true, true, true, true, false, false, false, false, false, false, false, false, false] rfl rfl (by kernel_rfl) (fun _ _ _ h => h) (Or.inl ⟨by rfl, ?_⟩) hHeld ?_ ?_
  rotate_left
  · rintro w' s0
    have x := (blk_cell s0 43).trans (show _ = some (.int .i64 1) from rfl)
    go_simp
    with_reducible rfl
  rotate_left
  · simp only [Act.put, List.setIfInBounds_toArray, List.set_cons_zero, List.set_cons_succ, i64_w, i32_w]
    rfl
  refine pure_ (i := 5) (N := (some 112)) (v := ?_) (a' := ?_) #[true, true, true, true, true, true, false, false, false, false, false, false, false, false] rfl rfl (by kernel_rfl) (fun _ _ _ h => h) (Or.inl ⟨by rfl, ?_⟩) ?_ ?_
  rotate_left
  · intro w'
    go_simp
    with_reducible rfl
  rotate_left
  · simp only [Act.put, List.setIfInBounds_toArray, List.set_cons_zero, List.set_cons_succ, i64_w, i32_w]
    rfl
  refine pure_ (i := 6) (N := (some 113)) (v := ?_) (a' := ?_) #[true, true, true, true, true, true, true, false, false, false, false, false, false, false] rfl rfl (by kernel_rfl) (fun _ _ _ h => h) (Or.inl ⟨by rfl, ?_⟩) ?_ ?_
  rotate_left
  · intro w'
    go_simp
    with_reducible rfl
  rotate_left
  · simp only [Act.put, List.setIfInBounds_toArray, List.set_cons_zero, List.set_cons_succ, i64_w, i32_w]
    rfl
  refine pure_ (i := 7) (N := (some 114)) (v := ?_) (a' := ?_) #[true, true, true, true, true, true, true, true, false, false, false, false, false, false] rfl rfl (by kernel_rfl) (fun _ _ _ h => h) (Or.inl ⟨by rfl, ?_⟩) ?_ ?_
  rotate_left
  · intro w'
    go_simp
    with_reducible rfl
  rotate_left
  · simp only [Act.put, List.setIfInBounds_toArray, List.set_cons_zero, List.set_cons_succ, i64_w, i32_w]
    rfl
  refine take_ (i := 8) (N := (some 115)) (v := ?_) (a' := ?_) #[true, true, true, true, true, true, true, true, true, false, false, false, false, false] rfl rfl (by kernel_rfl) (fun _ _ _ h => h) (Or.inl ⟨by rfl, ?_⟩) hHeld ?_ ?_
  rotate_left
  · rintro w' s0
    have x := (blk_cell s0 43).trans (show _ = some (.int .i64 1) from rfl)
    have x2 := (blk_cell s0 44).trans (show _ = some (.int .i64 0) from rfl)
    go_simp
    with_reducible rfl
  rotate_left
  · simp only [Act.put, List.setIfInBounds_toArray, List.set_cons_zero, List.set_cons_succ, i64_w, i32_w]
    rfl
  refine pure_ (i := 10) (N := (some 117)) (v := ?_) (a' := ?_) #[true, true, true, true, true, true, true, true, true, false, true, false, false, false] rfl rfl (by kernel_rfl) (fun _ _ _ h => h) (Or.inl ⟨by rfl, ?_⟩) ?_ ?_
  rotate_left
  · intro w'
    go_simp
    with_reducible rfl
  rotate_left
  · simp only [Act.put, List.setIfInBounds_toArray, List.set_cons_zero, List.set_cons_succ, i64_w, i32_w]
    rfl
  refine one_ (i := 9) (N := (some 116)) #[true, true, true, true, true, true, true, true, true, true, true, false, false, false] rfl rfl (by kernel_rfl) (by decide) (fun K hK => ?_)
  refine goes_ Tryz.func29 (by kernel_rfl) rfl #[.agg #[.int .i64 1, .int .i64 0]] (by rfl) rfl rfl (by (try simp only [List.map_toArray, List.map_cons, List.map_nil]); first | done | rfl) ?_
  refine (mode_Clock_Valid.calls 1 0 true Wj rfl).mono ?_
  rintro e Wk ⟨rfl, hb⟩
  replace H := Aside0.mk (H.out.below hb)
  replace HT := Aside0.mk (blk_below HT.out hb)
  replace H4 := Aside0.mk (blk_below H4.out hb)
  replace H5 := Aside0.mk (blk_below H5.out hb)
  replace HK := Aside0.mk (HK.out.below hb)
  clear hb hHeld
  refine ⟨_, rfl, ?_⟩
  refine hK.out _ _ H.out.hg (fun hHeld => ?_)
  clear hK K
  refine norm_ (a' := ?_) ?_ ?_
  rotate_left
  · show Act.put _ (some 116) _ = _
    simp only [Act.put, List.setIfInBounds_toArray, List.set_cons_zero, List.set_cons_succ, i64_w, i32_w]
    rfl
  have z0 : Wk.cell? ⟨b5, 0, none⟩ = some (.int .i64 0) := (blk_cell H5.out 0).trans rfl
  have e0 := blk_frozen H5.out 0
  refine one_ (i := 11) (N := none) #[true, true, true, true, true, true, true, true, true, true, true, true, false, false] rfl rfl (by kernel_rfl) (by decide) (fun K hK => ?_)
  refine skip_ (w1 := Wk.setCell ⟨b5, 0, none⟩ (.int .i64 1)) (by rfl) rfl (by first | (go_simp; done) | (go_simp; rfl)) ?_
  clear z0 e0 hHeld
  have q5 := (blk_set H5.out 0 (.int .i64 1)).trans (show _ = some (Obj.cells (toldV 1 false true false hd false 0 0 0) 39 (0, 0)) by kernel_rfl)
  replace H := Aside0.mk (H.out.far H5.out g5 0 (.int .i64 1))
  replace HT := Aside0.mk (blk_far HT.out (p := ⟨b5, 0, none⟩) n35 (.int .i64 1))
  replace H4 := Aside0.mk (blk_far H4.out (p := ⟨b5, 0, none⟩) n45 (.int .i64 1))
  replace HK := Aside0.mk (HK.out.setCell (p := ⟨b5, 0, none⟩) (.inr l5) (.int .i64 1))
  replace H5 := Aside0.mk q5
  clear q5
  generalize Wk.setCell ⟨b5, 0, none⟩ (.int .i64 1) = Wl at H HT H4 H5 HK ⊢
  refine hK.out _ _ H.out.hg (fun hHeld => ?_)
  clear hK K
  refine pure_ (i := 12) (N := (some 118)) (v := ?_) (a' := ?_) #[true, true, true, true, true, true, true, true, true, true, true, true, true, false] rfl rfl (by kernel_rfl) (fun _ _ _ h => h) (Or.inl ⟨by rfl, ?_⟩) ?_ ?_
  rotate_left
  · intro w'
    go_simp
    with_reducible rfl
  rotate_left
  · simp only [Act.put, List.setIfInBounds_toArray, List.set_cons_zero, List.set_cons_succ, i64_w, i32_w]
    rfl
  have z1 : Wl.cell? ⟨b5, 1, none⟩ = some (.bool false) := (blk_cell H5.out 1).trans rfl
  have e1 := blk_frozen H5.out 1
  refine one_ (i := 13) (N := none) #[true, true, true, true, true, true, true, true, true, true, true, true, true, true] rfl rfl (by kernel_rfl) (by decide) (fun K hK => ?_)
  refine skip_ (w1 := Wl.setCell ⟨b5, 1, none⟩ (.bool true)) (by rfl) rfl (by first | (go_simp; done) | (go_simp; rfl)) ?_
  clear z1 e1 hHeld
  have q5 := (blk_set H5.out 1 (.bool true)).trans (show _ = some (Obj.cells (toldV 1 true true false hd false 0 0 0) 39 (0, 0)) by kernel_rfl)
  replace H := Aside0.mk (H.out.far H5.out g5 1 (.bool true))
  replace HT := Aside0.mk (blk_far HT.out (p := ⟨b5, 1, none⟩) n35 (.bool true))
  replace H4 := Aside0.mk (blk_far H4.out (p := ⟨b5, 1, none⟩) n45 (.bool true))
  replace HK := Aside0.mk (HK.out.setCell (p := ⟨b5, 1, none⟩) (.inr l5) (.bool true))
  replace H5 := Aside0.mk q5
  clear q5
  generalize Wl.setCell ⟨b5, 1, none⟩ (.bool true) = Wm at H HT H4 H5 HK ⊢
  refine hK.out _ _ H.out.hg (fun hHeld => ?_)
  clear hK K
  refine done_ (by kernel_rfl) ?_
  have z1 : Wm.cell? ⟨b5, 1, none⟩ = some (.bool true) := (blk_cell H5.out 1).trans rfl
  go_upto_region 22 with fail
  clear z1
  refine start_ (n := 27) (S := fun w' => w'.heap[g]? = some (.cells (chanV ⟨alt m, 0, 0, c.s0, 0, 0, c.s1, 0, c.s2⟩ c f gr (.slice none 0 0) 1 0) 56 (0, 0))) (ds := []) #[false, false, false, false, false, false, false, false, false, false, false, false, false, false, false, false, false, false, false, false, false, false, false, false, false, false, false] (by kernel_rfl) rfl rfl H.out.hg (fun hHeld => ?_)
  replace H := Aside0.mk (H.out.drewN 1)
  replace HT := Aside0.mk (blk_drew HT.out)
  replace H4 := Aside0.mk (blk_drew H4.out)
  replace H5 := Aside0.mk (blk_drew H5.out)
  replace HK := Aside0.mk HK.out.drew
  change Aside0 (Chan w0 Wm.drew _ _ _ _ _ _ _ _ _ _ _ _ _ _ _ _) at H
  generalize Wm.drew = Wn at H HT H4 H5 HK hHeld ⊢
  refine pure_ (i := 0) (N := (some 121)) (v := ?_) (a' := ?_) #[true, false, false, false, false, false, false, false, false, false, false, false, false, false, false, false, false, false, false, false, false, false, false, false, false, false, false] rfl rfl (by kernel_rfl) (fun _ _ _ h => h) (Or.inl ⟨by rfl, ?_⟩) ?_ ?_
  rotate_left
  · intro w'
    go_simp
    with_reducible rfl
  rotate_left
  · simp only [Act.put, List.setIfInBounds_toArray, List.set_cons_zero, List.set_cons_succ, i64_w, i32_w]
    rfl
  refine pure_ (i := 1) (N := (some 122)) (v := ?_) (a' := ?_) #[true, true, false, false, false, false, false, false, false, false, false, false, false, false, false, false, false, false, false, false, false, false, false, false, false, false, false] rfl rfl (by kernel_rfl) (fun _ _ _ h => h) (Or.inl ⟨by rfl, ?_⟩) ?_ ?_
  rotate_left
  · intro w'
    go_simp
    with_reducible rfl
  rotate_left
  · simp only [Act.put, List.setIfInBounds_toArray, List.set_cons_zero, List.set_cons_succ, i64_w, i32_w]
    rfl
  refine pure_ (i := 2) (N := (some 123)) (v := ?_) (a' := ?_) #[true, true, true, false, false, false, false, false, false, false, false, false, false, false, false, false, false, false, false, false, false, false, false, false, false, false, false] rfl rfl (by kernel_rfl) (fun _ _ _ h => h) (Or.inl ⟨by rfl, ?_⟩) ?_ ?_
  rotate_left
  · intro w'
    go_simp
    with_reducible rfl
  rotate_left
  · simp only [Act.put, List.setIfInBounds_toArray, List.set_cons_zero, List.set_cons_succ, i64_w, i32_w]
    rfl
  refine pure_ (i := 3) (N := (some 124)) (v := ?_) (a' := ?_) #[true, true, true, true, false, false, false, false, false, false, false, false, false, false, false, false, false, false, false, false, false, false, false, false, false, false, false] rfl rfl (by kernel_rfl) (fun _ _ _ h => h) (Or.inl ⟨by rfl, ?_⟩) ?_ ?_
  rotate_left
  · intro w'
    go_simp
    with_reducible rfl
  rotate_left
  · simp only [Act.put, List.setIfInBounds_toArray, List.set_cons_zero, List.set_cons_succ, i64_w, i32_w]
    rfl
  refine pure_ (i := 4) (N := (some 125)) (v := ?_) (a' := ?_) #[true, true, true, true, true, false, false, false, false, false, false, false, false, false, false, false, false, false, false, false, false, false, false, false, false, false, false] rfl rfl (by kernel_rfl) (fun _ _ _ h => h) (Or.inl ⟨by rfl, ?_⟩) ?_ ?_
  rotate_left
  · intro w'
    go_simp
    with_reducible rfl
  rotate_left
  · simp only [Act.put, List.setIfInBounds_toArray, List.set_cons_zero, List.set_cons_succ, i64_w, i32_w]
    rfl
  refine take_ (i := 5) (N := (some 126)) (v := ?_) (a' := ?_) #[true, true, true, true, true, true, false, false, false, false, false, false, false, false, false, false, false, false, false, false, false, false, false, false, false, false, false] rfl rfl (by kernel_rfl) (fun _ _ _ h => h) (Or.inl ⟨by rfl, ?_⟩) hHeld ?_ ?_
  rotate_left
  · rintro w' s0
    have x := (blk_cell s0 0).trans (show _ = some (.int .i64 (alt m)) from rfl)
    go_simp
    with_reducible rfl
  rotate_left
  · simp only [Act.put, List.setIfInBounds_toArray, List.set_cons_zero, List.set_cons_succ, i64_w, i32_w]
    rfl
  refine pure_ (i := 7) (N := (some 128)) (v := ?_) (a' := ?_) #[true, true, true, true, true, true, false, true, false, false, false, false, false, false, false, false, false, false, false, false, false, false, false, false, false, false, false] rfl rfl (by kernel_rfl) (fun _ _ _ h => h) (Or.inl ⟨by rfl, ?_⟩) ?_ ?_
  rotate_left
  · intro w'
    go_simp
    with_reducible rfl
  rotate_left
  · simp only [Act.put, List.setIfInBounds_toArray, List.set_cons_zero, List.set_cons_succ, i64_w, i32_w]
    rfl
  refine pure_ (i := 8) (N := (some 129)) (v := ?_) (a' := ?_) #[true, true, true, true, true, true, false, true, true, false, false, false, false, false, false, false, false, false, false, false, false, false, false, false, false, false, false] rfl rfl (by kernel_rfl) (fun _ _ _ h => h) (Or.inl ⟨by rfl, ?_⟩) ?_ ?_
  rotate_left
  · intro w'
    go_simp
    with_reducible rfl
  rotate_left
  · simp only [Act.put, List.setIfInBounds_toArray, List.set_cons_zero, List.set_cons_succ, i64_w, i32_w]
    rfl
  refine pure_ (i := 9) (N := (some 130)) (v := ?_) (a' := ?_) #[true, true, true, true, true, true, false, true, true, true, false, false, false, false, false, false, false, false, false, false, false, false, false, false, false, false, false] rfl rfl (by kernel_rfl) (fun _ _ _ h => h) (Or.inl ⟨by rfl, ?_⟩) ?_ ?_
  rotate_left
  · intro w'
    go_simp
    with_reducible rfl
  rotate_left
  · simp only [Act.put, List.setIfInBounds_toArray, List.set_cons_zero, List.set_cons_succ, i64_w, i32_w]
    rfl
  refine pure_ (i := 10) (N := (some 131)) (v := ?_) (a' := ?_) #[true, true, true, true, true, true, false, true, true, true, true, false, false, false, false, false, false, false, false, false, false, false, false, false, false, false, false] rfl rfl (by kernel_rfl) (fun _ _ _ h => h) (Or.inl ⟨by rfl, ?_⟩) ?_ ?_
  rotate_left
  · intro w'
    go_simp
    with_reducible rfl
  rotate_left
  · simp only [Act.put, List.setIfInBounds_toArray, List.set_cons_zero, List.set_cons_succ, i64_w, i32_w]
    rfl
  refine pure_ (i := 11) (N := (some 132)) (v := ?_) (a' := ?_) #[true, true, true, true, true, true, false, true, true, true, true, true, false, false, false, false, false, false, false, false, false, false, false, false, false, false, false] rfl rfl (by kernel_rfl) (fun _ _ _ h => h) (Or.inl ⟨by rfl, ?_⟩) ?_ ?_
  rotate_left
  · intro w'
    go_simp
    with_reducible rfl
  rotate_left
  · simp only [Act.put, List.setIfInBounds_toArray, List.set_cons_zero, List.set_cons_succ, i64_w, i32_w]
    rfl
  refine take_ (i := 12) (N := (some 133)) (v := ?_) (a' := ?_) #[true, true, true, true, true, true, false, true, true, true, true, true, true, false, false, false, false, false, false, false, false, false, false, false, false, false, false] rfl rfl (by kernel_rfl) (fun _ _ _ h => h) (Or.inl ⟨by rfl, ?_⟩) hHeld ?_ ?_
  rotate_left
  · rintro w' s0
    have x := (blk_cell s0 1).trans (show _ = some (.int .i64 0) from rfl)
    go_simp
    with_reducible rfl
  rotate_left
  · simp only [Act.put, List.setIfInBounds_toArray, List.set_cons_zero, List.set_cons_succ, i64_w, i32_w]
    rfl
  refine pure_ (i := 14) (N := (some 135)) (v := ?_) (a' := ?_) #[true, true, true, true, true, true, false, true, true, true, true, true, true, false, true, false, false, false, false, false, false, false, false, false, false, false, false] rfl rfl (by kernel_rfl) (fun _ _ _ h => h) (Or.inl ⟨by rfl, ?_⟩) ?_ ?_
  rotate_left
  · intro w'
    go_simp
    with_reducible rfl
  rotate_left
  · simp only [Act.put, List.setIfInBounds_toArray, List.set_cons_zero, List.set_cons_succ, i64_w, i32_w]
    rfl
  refine pure_ (i := 15) (N := (some 136)) (v := ?_) (a' := ?_) #[true, true, true, true, true, true, false, true, true, true, true, true, true, false, true, true, false, false, false, false, false, false, false, false, false, false, false] rfl rfl (by kernel_rfl) (fun _ _ _ h => h) (Or.inl ⟨by rfl, ?_⟩) ?_ ?_
  rotate_left
  · intro w'
    go_simp
    with_reducible rfl
  rotate_left
  · simp only [Act.put, List.setIfInBounds_toArray, List.set_cons_zero, List.set_cons_succ, i64_w, i32_w]
    rfl
  refine pure_ (i := 16) (N := (some 137)) (v := ?_) (a' := ?_) #[true, true, true, true, true, true, false, true, true, true, true, true, true, false, true, true, true, false, false, false, false, false, false, false, false, false, false] rfl rfl (by kernel_rfl) (fun _ _ _ h => h) (Or.inl ⟨by rfl, ?_⟩) ?_ ?_
  rotate_left
  · intro w'
    go_simp
    with_reducible rfl
  rotate_left
  · simp only [Act.put, List.setIfInBounds_toArray, List.set_cons_zero, List.set_cons_succ, i64_w, i32_w]
    rfl
  refine pure_ (i := 17) (N := (some 138)) (v := ?_) (a' := ?_) #[true, true, true, true, true, true, false, true, true, true, true, true, true, false, true, true, true, true, false, false, false, false, false, false, false, false, false] rfl rfl (by kernel_rfl) (fun _ _ _ h => h) (Or.inl ⟨by rfl, ?_⟩) ?_ ?_
  rotate_left
  · intro w'
    go_simp
    with_reducible rfl
  rotate_left
  · simp only [Act.put, List.setIfInBounds_toArray, List.set_cons_zero, List.set_cons_succ, i64_w, i32_w]
    rfl
  refine pure_ (i := 18) (N := (some 139)) (v := ?_) (a' := ?_) #[true, true, true, true, true, true, false, true, true, true, true, true, true, false, true, true, true, true, true, false, false, false, false, false, false, false, false] rfl rfl (by kernel_rfl) (fun _ _ _ h => h) (Or.inl ⟨by rfl, ?_⟩) ?_ ?_
  rotate_left
  · intro w'
    go_simp
    with_reducible rfl
  rotate_left
  · simp only [Act.put, List.setIfInBounds_toArray, List.set_cons_zero, List.set_cons_succ, i64_w, i32_w]
    rfl
  refine take_ (i := 19) (N := (some 140)) (v := ?_) (a' := ?_) #[true, true, true, true, true, true, false, true, true, true, true, true, true, false, true, true, true, true, true, true, false, false, false, false, false, false, false] rfl rfl (by kernel_rfl) (fun _ _ _ h => h) (Or.inl ⟨by rfl, ?_⟩) hHeld ?_ ?_
  rotate_left
  · rintro w' s0
    have x := (blk_cell s0 2).trans (show _ = some (.int .i64 0) from rfl)
    go_simp
    with_reducible rfl
  rotate_left
  · simp only [Act.put, List.setIfInBounds_toArray, List.set_cons_zero, List.set_cons_succ, i64_w, i32_w]
    rfl
  refine one_ (i := 6) (N := (some 127)) #[true, true, true, true, true, true, true, true, true, true, true, true, true, false, true, true, true, true, true, true, false, false, false, false, false, false, false] rfl rfl (by kernel_rfl) (by decide) (fun K hK => ?_)
  refine goes_ Tryz.func30 (by kernel_rfl) rfl #[.int .i64 (alt m)] (by rfl) rfl rfl (by (try simp only [List.map_toArray, List.map_cons, List.map_nil]); first | done | rfl) ?_
  refine (HO.out Wn).mono ?_
  rintro e Wo ⟨rfl, hb⟩
  replace H := Aside0.mk (H.out.below hb)
  replace HT := Aside0.mk (blk_below HT.out hb)
  replace H4 := Aside0.mk (blk_below H4.out hb)
  replace H5 := Aside0.mk (blk_below H5.out hb)
  replace HK := Aside0.mk (HK.out.below hb)
  clear hb hHeld
  refine ⟨_, rfl, ?_⟩
  refine hK.out _ _ H.out.hg (fun hHeld => ?_)
  clear hK K
  refine norm_ (a' := ?_) ?_ ?_
  rotate_left
  · show Act.put _ (some 127) _ = _
    simp only [Act.put, List.setIfInBounds_toArray, List.set_cons_zero, List.set_cons_succ, i64_w, i32_w]
    rfl
  refine pure_ (i := 21) (N := (some 142)) (v := ?_) (a' := ?_) #[true, true, true, true, true, true, true, true, true, true, true, true, true, false, true, true, true, true, true, true, false, true, false, false, false, false, false] rfl rfl (by kernel_rfl) (fun _ _ _ h => h) (Or.inl ⟨by rfl, ?_⟩) ?_ ?_
  rotate_left
  · intro w'
    go_simp
    with_reducible rfl
  rotate_left
  · simp only [Act.put, List.setIfInBounds_toArray, List.set_cons_zero, List.set_cons_succ, i64_w, i32_w]
    rfl
  refine one_ (i := 13) (N := (some 134)) #[true, true, true, true, true, true, true, true, true, true, true, true, true, true, true, true, true, true, true, true, false, true, false, false, false, false, false] rfl rfl (by kernel_rfl) (by decide) (fun K hK => ?_)
  refine goes_ Tryz.func30 (by kernel_rfl) rfl #[.int .i64 0] (by rfl) rfl rfl (by (try simp only [List.map_toArray, List.map_cons, List.map_nil]); first | done | rfl) ?_
  refine (out_zero Wo).mono ?_
  rintro e Wp ⟨rfl, hb⟩
  replace H := Aside0.mk (H.out.below hb)
  replace HT := Aside0.mk (blk_below HT.out hb)
  replace H4 := Aside0.mk (blk_below H4.out hb)
  replace H5 := Aside0.mk (blk_below H5.out hb)
  replace HK := Aside0.mk (HK.out.below hb)
  clear hb hHeld
  refine ⟨_, rfl, ?_⟩
  refine hK.out _ _ H.out.hg (fun hHeld => ?_)
  clear hK K
  refine norm_ (a' := ?_) ?_ ?_
  rotate_left
  · show Act.put _ (some 134) _ = _
    simp only [Act.put, List.setIfInBounds_toArray, List.set_cons_zero, List.set_cons_succ, i64_w, i32_w]
    rfl
  refine one_ (i := 20) (N := (some 141)) #[true, true, true, true, true, true, true, true, true, true, true, true, true, true, true, true, true, true, true, true, true, true, false, false, false, false, false] rfl rfl (by kernel_rfl) (by decide) (fun K hK => ?_)
  refine goes_ Tryz.func30 (by kernel_rfl) rfl #[.int .i64 0] (by rfl) rfl rfl (by (try simp only [List.map_toArray, List.map_cons, List.map_nil]); first | done | rfl) ?_
  refine (out_zero Wp).mono ?_
  rintro e Wq ⟨rfl, hb⟩
  replace H := Aside0.mk (H.out.below hb)
  replace HT := Aside0.mk (blk_below HT.out hb)
  replace H4 := Aside0.mk (blk_below H4.out hb)
  replace H5 := Aside0.mk (blk_below H5.out hb)
  replace HK := Aside0.mk (HK.out.below hb)
  clear hb hHeld
  refine ⟨_, rfl, ?_⟩
  refine hK.out _ _ H.out.hg (fun hHeld => ?_)
  clear hK K
  refine norm_ (a' := ?_) ?_ ?_
  rotate_left
  · show Act.put _ (some 141) _ = _
    simp only [Act.put, List.setIfInBounds_toArray, List.set_cons_zero, List.set_cons_succ, i64_w, i32_w]
    rfl
  have z6 : Wq.cell? ⟨b5, 6, none⟩ = some (.int .i64 0) := (blk_cell H5.out 6).trans rfl
  have e6 := blk_frozen H5.out 6
  refine one_ (i := 22) (N := none) #[true, true, true, true, true, true, true, true, true, true, true, true, true, true, true, true, true, true, true, true, true, true, true, false, false, false, false] rfl rfl (by kernel_rfl) (by decide) (fun K hK => ?_)
  refine skip_ (w1 := Wq.setCell ⟨b5, 6, none⟩ (.int .i64 o)) (by rfl) rfl (by first | (go_simp; done) | (go_simp; rfl)) ?_
  clear z6 e6 hHeld
  have q5 := (blk_set H5.out 6 (.int .i64 o)).trans (show _ = some (Obj.cells (toldV 1 true true false hd false o 0 0) 39 (0, 0)) by kernel_rfl)
  replace H := Aside0.mk (H.out.far H5.out g5 6 (.int .i64 o))
  replace HT := Aside0.mk (blk_far HT.out (p := ⟨b5, 6, none⟩) n35 (.int .i64 o))
  replace H4 := Aside0.mk (blk_far H4.out (p := ⟨b5, 6, none⟩) n45 (.int .i64 o))
  replace HK := Aside0.mk (HK.out.setCell (p := ⟨b5, 6, none⟩) (.inr l5) (.int .i64 o))
  replace H5 := Aside0.mk q5
  clear q5
  generalize Wq.setCell ⟨b5, 6, none⟩ (.int .i64 o) = Wr0 at H HT H4 H5 HK ⊢
  refine hK.out _ _ H.out.hg (fun hHeld => ?_)
  clear hK K
  refine pure_ (i := 23) (N := (some 143)) (v := ?_) (a' := ?_) #[true, true, true, true, true, true, true, true, true, true, true, true, true, true, true, true, true, true, true, true, true, true, true, true, false, false, false] rfl rfl (by kernel_rfl) (fun _ _ _ h => h) (Or.inl ⟨by rfl, ?_⟩) ?_ ?_
  rotate_left
  · intro w'
    go_simp
    with_reducible rfl
  rotate_left
  · simp only [Act.put, List.setIfInBounds_toArray, List.set_cons_zero, List.set_cons_succ, i64_w, i32_w]
    rfl
  have z7 : Wr0.cell? ⟨b5, 7, none⟩ = some (.int .i64 0) := (blk_cell H5.out 7).trans rfl
  have e7 := blk_frozen H5.out 7
  refine one_ (i := 24) (N := none) #[true, true, true, true, true, true, true, true, true, true, true, true, true, true, true, true, true, true, true, true, true, true, true, true, true, false, false] rfl rfl (by kernel_rfl) (by decide) (fun K hK => ?_)
  refine skip_ (w1 := Wr0.setCell ⟨b5, 7, none⟩ (.int .i64 0)) (by rfl) rfl (by first | (go_simp; done) | (go_simp; rfl)) ?_
  clear z7 e7 hHeld
  have q5 := (blk_set H5.out 7 (.int .i64 0)).trans (show _ = some (Obj.cells (toldV 1 true true false hd false o 0 0) 39 (0, 0)) by kernel_rfl)
  replace H := Aside0.mk (H.out.far H5.out g5 7 (.int .i64 0))
  replace HT := Aside0.mk (blk_far HT.out (p := ⟨b5, 7, none⟩) n35 (.int .i64 0))
  replace H4 := Aside0.mk (blk_far H4.out (p := ⟨b5, 7, none⟩) n45 (.int .i64 0))
  replace HK := Aside0.mk (HK.out.setCell (p := ⟨b5, 7, none⟩) (.inr l5) (.int .i64 0))
  replace H5 := Aside0.mk q5
  clear q5
  generalize Wr0.setCell ⟨b5, 7, none⟩ (.int .i64 0) = Wr1 at H HT H4 H5 HK ⊢
  refine hK.out _ _ H.out.hg (fun hHeld => ?_)
  clear hK K
  refine pure_ (i := 25) (N := (some 144)) (v := ?_) (a' := ?_) #[true, true, true, true, true, true, true, true, true, true, true, true, true, true, true, true, true, true, true, true, true, true, true, true, true, true, false] rfl rfl (by kernel_rfl) (fun _ _ _ h => h) (Or.inl ⟨by rfl, ?_⟩) ?_ ?_
  rotate_left
  · intro w'
    go_simp
    with_reducible rfl
  rotate_left
  · simp only [Act.put, List.setIfInBounds_toArray, List.set_cons_zero, List.set_cons_succ, i64_w, i32_w]
    rfl
  have z8 : Wr1.cell? ⟨b5, 8, none⟩ = some (.int .i64 0) := (blk_cell H5.out 8).trans rfl
  have e8 := blk_frozen H5.out 8
  refine one_ (i := 26) (N := none) #[true, true, true, true, true, true, true, true, true, true, true, true, true, true, true, true, true, true, true, true, true, true, true, true, true, true, true] rfl rfl (by kernel_rfl) (by decide) (fun K hK => ?_)
  refine skip_ (w1 := Wr1.setCell ⟨b5, 8, none⟩ (.int .i64 0)) (by rfl) rfl (by first | (go_simp; done) | (go_simp; rfl)) ?_
  clear z8 e8 hHeld
  have q5 := (blk_set H5.out 8 (.int .i64 0)).trans (show _ = some (Obj.cells (toldV 1 true true false hd false o 0 0) 39 (0, 0)) by kernel_rfl)
  replace H := Aside0.mk (H.out.far H5.out g5 8 (.int .i64 0))
  replace HT := Aside0.mk (blk_far HT.out (p := ⟨b5, 8, none⟩) n35 (.int .i64 0))
  replace H4 := Aside0.mk (blk_far H4.out (p := ⟨b5, 8, none⟩) n45 (.int .i64 0))
  replace HK := Aside0.mk (HK.out.setCell (p := ⟨b5, 8, none⟩) (.inr l5) (.int .i64 0))
  replace H5 := Aside0.mk q5
  clear q5
  generalize Wr1.setCell ⟨b5, 8, none⟩ (.int .i64 0) = Wr2 at H HT H4 H5 HK ⊢
  refine hK.out _ _ H.out.hg (fun hHeld => ?_)
  clear hK K
  refine done_ (by kernel_rfl) ?_
  go_upto_region 23 with fail
  have z0 : Wr2.cell? ⟨b5, 0, none⟩ = some (.int .i64 1) := (blk_cell H5.out 0).trans rfl
  have y0 : Wr2.cell? ⟨b4, 0, none⟩ = some (.int .i64 0) := (blk_cell H4.out 0).trans rfl
  have f0 := blk_frozen H4.out 0
  have z1 : Wr2.cell? ⟨b5, 1, none⟩ = some (.bool true) := (blk_cell H5.out 1).trans rfl
  have y1 : Wr2.cell? ⟨b4, 1, none⟩ = some (.bool false) := (blk_cell H4.out 1).trans rfl
  have f1 := blk_frozen H4.out 1
  have z2 : Wr2.cell? ⟨b5, 2, none⟩ = some (.bool true) := (blk_cell H5.out 2).trans rfl
  have y2 : Wr2.cell? ⟨b4, 2, none⟩ = some (.bool false) := (blk_cell H4.out 2).trans rfl
  have f2 := blk_frozen H4.out 2
  have z3 : Wr2.cell? ⟨b5, 3, none⟩ = some (.bool false) := (blk_cell H5.out 3).trans rfl
  have y3 : Wr2.cell? ⟨b4, 3, none⟩ = some (.bool false) := (blk_cell H4.out 3).trans rfl
  have f3 := blk_frozen H4.out 3
  have z4 : Wr2.cell? ⟨b5, 4, none⟩ = some (.bool hd) := (blk_cell H5.out 4).trans rfl
  have y4 : Wr2.cell? ⟨b4, 4, none⟩ = some (.bool false) := (blk_cell H4.out 4).trans rfl
  have f4 := blk_frozen H4.out 4
  have z5 : Wr2.cell? ⟨b5, 5, none⟩ = some (.bool false) := (blk_cell H5.out 5).trans rfl
  have y5 : Wr2.cell? ⟨b4, 5, none⟩ = some (.bool false) := (blk_cell H4.out 5).trans rfl
  have f5 := blk_frozen H4.out 5
  have z6 : Wr2.cell? ⟨b5, 6, none⟩ = some (.int .i64 o) := (blk_cell H5.out 6).trans rfl
  have y6 : Wr2.cell? ⟨b4, 6, none⟩ = some (.int .i64 0) := (blk_cell H4.out 6).trans rfl
  have f6 := blk_frozen H4.out 6
  have z7 : Wr2.cell? ⟨b5, 7, none⟩ = some (.int .i64 0) := (blk_cell H5.out 7).trans rfl
  have y7 : Wr2.cell? ⟨b4, 7, none⟩ = some (.int .i64 0) := (blk_cell H4.out 7).trans rfl
  have f7 := blk_frozen H4.out 7
  have z8 : Wr2.cell? ⟨b5, 8, none⟩ = some (.int .i64 0) := (blk_cell H5.out 8).trans rfl
  have y8 : Wr2.cell? ⟨b4, 8, none⟩ = some (.int .i64 0) := (blk_cell H4.out 8).trans rfl
  have f8 := blk_frozen H4.out 8
  obtain ⟨q4, qh, qk⟩ := H.out.told H4.out g4 l4 HK.out 1 true true false hd false o 0 0
  go_wp2_with fail
  generalize ((((((((Wr2.setCell ⟨b4, 0, none⟩ (.int .i64 1)).setCell ⟨b4, 1, none⟩ (.bool true)).setCell ⟨b4, 2, none⟩ (.bool true)).setCell ⟨b4, 3, none⟩ (.bool false)).setCell ⟨b4, 4, none⟩ (.bool hd)).setCell ⟨b4, 5, none⟩ (.bool false)).setCell ⟨b4, 6, none⟩ (.int .i64 o)).setCell ⟨b4, 7, none⟩ (.int .i64 0)).setCell ⟨b4, 8, none⟩ (.int .i64 0) = Wz at q4 qh qk ⊢
  refine bodyPost_ret (results_cell_row rfl _ _ b4 39 (toldV 1 true true false hd false o 0 0) (0, 0) _ rfl q4 Tryz.underlying39 rfl (by kernel_rfl)) rfl ?_
  refine ⟨.slice none 0 0, by rw [← HHD.out], ?_, qk⟩
  rw [← HTH.out, ← HRN.out]
  exact qh
end Go.Proofs.YtpdahkgandaabaaGreatDoor.Ch
