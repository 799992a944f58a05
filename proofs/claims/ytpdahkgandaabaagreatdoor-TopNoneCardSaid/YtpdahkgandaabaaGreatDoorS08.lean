/- A part of the proof of the law TopNone of the top, where the package's tables hold what their initialisers lay. -/
import Derived.ChangeKeysEq
import Derived.Test.YtpdahkgandaabaaGreatDoorS01
import Derived.Test.YtpdahkgandaabaaGreatDoorS07
namespace Go.Proofs.YtpdahkgandaabaaGreatDoor.Ch
open Go.RowKit Go.Proofs.YtpdahkgandaabaaGreatDoorW.PrintWords Go.Proofs.YtpdahkgandaabaaGreatDoorW.PrintLast Go.Proofs.YtpdahkgandaabaaGreatDoorW.PrintMore Go.Proofs.YtpdahkgandaabaaGreatDoor.PTopNames Go.Proofs.YtpdahkgandaabaaGreatDoor.Al
set_option linter.unusedVariables false
set_option linter.unusedSimpArgs false
set_option maxRecDepth 100000 in
theorem eqV26 (n : Nat) (w : World) (a b c d e f : Int) :
  (Op.equalIn (n + 2) 26 (.agg #[.int .i64 a, .int .i64 b, .int .i64 c]) (.agg #[.int .i64 d, .int .i64 e, .int .i64 f])).run Tryz.prog w = .ok (a == d && (b == e && c == f)) w := by
 obtain ⟨i, hi⟩ : ∃ i, Tryz.prog.info? 2 = some i := Option.isSome_iff_exists.1 (by kernel_rfl)
 have h := run_equalIn_array (w := w) (n + 1) #[.int .i64 a, .int .i64 b, .int .i64 c] #[.int .i64 d, .int .i64 e, .int .i64 f] Tryz.underlying26 hi
 have p0 : ∀ w, (part 2 #[.int .i64 a, .int .i64 b, .int .i64 c] 0).run Tryz.prog w = .ok (.int .i64 a) w := fun _ => by kernel_rfl
 have p1 : ∀ w, (part 2 #[.int .i64 a, .int .i64 b, .int .i64 c] 1).run Tryz.prog w = .ok (.int .i64 b) w := fun _ => by kernel_rfl
 have p2 : ∀ w, (part 2 #[.int .i64 a, .int .i64 b, .int .i64 c] 2).run Tryz.prog w = .ok (.int .i64 c) w := fun _ => by kernel_rfl
 have q0 : ∀ w, (part 2 #[.int .i64 d, .int .i64 e, .int .i64 f] 0).run Tryz.prog w = .ok (.int .i64 d) w := fun _ => by kernel_rfl
 have q1 : ∀ w, (part 2 #[.int .i64 d, .int .i64 e, .int .i64 f] 1).run Tryz.prog w = .ok (.int .i64 e) w := fun _ => by kernel_rfl
 have q2 : ∀ w, (part 2 #[.int .i64 d, .int .i64 e, .int .i64 f] 2).run Tryz.prog w = .ok (.int .i64 f) w := fun _ => by kernel_rfl
 have k : ∀ (x y : Int) (w : World), (Op.equalIn (n + 1) 2 (.int .i64 x) (.int .i64 y)).run Tryz.prog w = .ok (x == y) w := fun x y w => by
  simp [Op.equalIn, run_underlying Tryz.underlying2]
 rw [show List.range 3 = [0, 1, 2] from rfl, show Tryz.prog.cellsOf 2 = 1 by kernel_rfl] at h
 rw [h]
 simp only [Op.eqItems, Sem.run_bind, Nat.mul_one, p0, p1, p2, q0, q1, q2, k, Result.andThen_ok]
 cases h1 : (a == d) <;> cases h2 : (b == e) <;> cases h3 : (c == f) <;> simp [Result.andThen, p1, p2, q1, q2, k, h1, h2, h3]
attribute [local go_sem high] eqV26
set_option maxRecDepth 100000 in
set_option maxHeartbeats 4000000 in
theorem clamp1_tells (x m : Int) : ∃ r, Tells 152 #[.int .i64 x, .int .i64 m] (Ch.two r 0) := by
 refine ⟨mx (wrap64 (-(mx m 0))) (mn x (mx m 0)), fun w hG => ?_⟩
 ·
  have H := am (fix_Clamp.calls x m (mx (wrap64 (-(mx m 0))) (mn x (mx m 0))) w rfl)
  clear hG
  go_enter Tryz.func152, Tryz.ntmps152
  go_wp2_with fail
  refine H.out.mono ?_
  rintro e w1 ⟨rfl, hb⟩
  go_wp2_with fail
  go_ret2
  exact ⟨rfl, hb⟩
set_option maxRecDepth 100000 in
set_option maxHeartbeats 4000000 in
theorem clamp_tells (a0 a1 a2 c0 c1 c2 : Int) : ∃ r0 r1 r2, Tells 125 #[vec a0 a1 a2, vec c0 c1 c2] (vec r0 r1 r2) := by
 obtain ⟨y0, hd0⟩ := clamp1_tells a0 c0
 obtain ⟨y1, hd1⟩ := clamp1_tells a1 c1
 obtain ⟨y2, hd2⟩ := clamp1_tells a2 c2
 have h := each_tells a0 a1 a2 c0 c1 c2 152 #[] (fun _ => True) (fun _ _ _ _ => trivial) (fun _ _ => by kernel_rfl) y0 0 y1 0 y2 0 (hd0.p _) (hd1.p _) (hd2.p _)
 refine ⟨y0, y1, y2, fun w hG => ?_⟩
 have HE := am h
 clear h hd0 hd1 hd2
 unfold vec at HE
 have HG := am hG
 clear hG
 unfold vec
 go_enter Tryz.func125, Tryz.ntmps125
 go_upto_region 1 with fail
 obtain ⟨x2, x3, x4, hB⟩ := blocks3 w #[.int .i64 a0, .int .i64 a1, .int .i64 a2] #[.int .i64 c0, .int .i64 c1, .int .i64 c2] #[.int .i64 0, .int .i64 0, .int .i64 0] 26 26 26
 generalize ((w.alloc (.cells #[.int .i64 a0, .int .i64 a1, .int .i64 a2] 26)).alloc (.cells #[.int .i64 c0, .int .i64 c1, .int .i64 c2] 26)).alloc (.cells #[.int .i64 0, .int .i64 0, .int .i64 0] 26) = w1 at x2 x3 x4 hB ⊢
 obtain ⟨b2, h2⟩ : ∃ b, b = w.heap.size := ⟨_, rfl⟩
 obtain ⟨b3, h3⟩ : ∃ b, b = w.heap.size + 1 := ⟨_, rfl⟩
 obtain ⟨b4, h4⟩ : ∃ b, b = w.heap.size + 1 + 1 := ⟨_, rfl⟩
 have g4 : w.heap.size ≤ b4 := by omega
 rw [← h4, ← h3, ← h2]
 rw [← h4] at x4
 rw [← h3] at x3
 rw [← h2] at x2
 have H2 := am x2
 have H3 := am x3
 have H4 := am x4
 have HB := am hB
 clear x2 x3 x4 hB h2 h3 h4
 have y20 := bcl H2.out 0 rfl
 have y21 := bcl H2.out 1 rfl
 have y22 := bcl H2.out 2 rfl
 have y30 := bcl H3.out 0 rfl
 have y31 := bcl H3.out 1 rfl
 have y32 := bcl H3.out 2 rfl
 go_wp2_with fail
 refine (HE.out w1 (HG.out.below HB.out) trivial).mono ?_
 rintro e w2 ⟨rfl, hb⟩
 rw [show RR 0 0 0 y0 = y0 from rfl, show RR 0 0 0 y1 = y1 from rfl, show RR 0 0 0 y2 = y2 from rfl, show EE 0 0 0 = 0 from rfl]
 clear y20 y21 y22 y30 y31 y32
 go_upto_region 2 with fail
 have HY := am (blk_new w2 (.cells #[.int .i64 y0, .int .i64 y1, .int .i64 y2] 26))
 replace H4 := am (blk_alloc (blk_below H4.out hb) (.cells #[.int .i64 y0, .int .i64 y1, .int .i64 y2] 26))
 replace HB := am (below_alloc (below_step HB.out hb) (.cells #[.int .i64 y0, .int .i64 y1, .int .i64 y2] 26))
 clear hb
 generalize w2.alloc (.cells #[.int .i64 y0, .int .i64 y1, .int .i64 y2] 26) = w3 at HY H4 HB ⊢
 generalize w2.heap.size = b5 at HY ⊢
 have z50 := bcl HY.out 0 rfl
 have z51 := bcl HY.out 1 rfl
 have z52 := bcl HY.out 2 rfl
 have y40 := bcl H4.out 0 rfl
 have f40 := bfz H4.out 0
 have y41 := bcl H4.out 1 rfl
 have f41 := bfz H4.out 1
 have y42 := bcl H4.out 2 rfl
 have f42 := bfz H4.out 2
 go_wp2_with fail
 obtain ⟨q, qb⟩ := three_set rfl H4.out g4 HB.out (.int .i64 y0) (.int .i64 y1) (.int .i64 y2)
 exact bodyPost_ret (results_cell_row rfl _ _ b4 26 _ (0, 0) _ rfl q Tryz.underlying26 rfl (by kernel_rfl)) rfl ⟨rfl, qb⟩
set_option maxRecDepth 100000 in
set_option maxHeartbeats 4000000 in
theorem kept1_tells (a0 a1 a2 c0 c1 c2 : Int) : ∃ r0 r1 r2, Tells 102 #[vec a0 a1 a2, vec c0 c1 c2] (vec r0 r1 r2) := by
 obtain ⟨y0, y1, y2, h⟩ := clamp_tells a0 a1 a2 c0 c1 c2
 refine ⟨y0, y1, y2, fun w hG => ?_⟩
 have HE := am h
 clear h
 unfold vec at HE
 have HG := am hG
 clear hG
 unfold vec
 go_enter Tryz.func102, Tryz.ntmps102
 go_upto_region 1 with fail
 obtain ⟨x2, x3, x4, hB⟩ := blocks3 w #[.int .i64 a0, .int .i64 a1, .int .i64 a2] #[.int .i64 c0, .int .i64 c1, .int .i64 c2] #[.int .i64 0, .int .i64 0, .int .i64 0] 26 26 26
 generalize ((w.alloc (.cells #[.int .i64 a0, .int .i64 a1, .int .i64 a2] 26)).alloc (.cells #[.int .i64 c0, .int .i64 c1, .int .i64 c2] 26)).alloc (.cells #[.int .i64 0, .int .i64 0, .int .i64 0] 26) = w1 at x2 x3 x4 hB ⊢
 obtain ⟨b2, h2⟩ : ∃ b, b = w.heap.size := ⟨_, rfl⟩
 obtain ⟨b3, h3⟩ : ∃ b, b = w.heap.size + 1 := ⟨_, rfl⟩
 obtain ⟨b4, h4⟩ : ∃ b, b = w.heap.size + 1 + 1 := ⟨_, rfl⟩
 have g4 : w.heap.size ≤ b4 := by omega
 rw [← h4, ← h3, ← h2]
 rw [← h4] at x4
 rw [← h3] at x3
 rw [← h2] at x2
 have H2 := am x2
 have H3 := am x3
 have H4 := am x4
 have HB := am hB
 clear x2 x3 x4 hB h2 h3 h4
 have y20 := bcl H2.out 0 rfl
 have y21 := bcl H2.out 1 rfl
 have y22 := bcl H2.out 2 rfl
 have y30 := bcl H3.out 0 rfl
 have y31 := bcl H3.out 1 rfl
 have y32 := bcl H3.out 2 rfl
 go_wp2_with fail
 refine (HE.out w1 (HG.out.below HB.out)).mono ?_
 rintro e w2 ⟨rfl, hb⟩
 clear y20 y21 y22 y30 y31 y32
 replace H2 := am (blk_below H2.out hb)
 replace H3 := am (blk_below H3.out hb)
 replace H4 := am (blk_below H4.out hb)
 replace HB := am (below_step HB.out hb)
 clear hb
 have y40 := bcl H4.out 0 rfl
 have f40 := bfz H4.out 0
 have y41 := bcl H4.out 1 rfl
 have f41 := bfz H4.out 1
 have y42 := bcl H4.out 2 rfl
 have f42 := bfz H4.out 2
 go_wp2_with fail
 obtain ⟨q, qb⟩ := three_set rfl H4.out g4 HB.out (.int .i64 y0) (.int .i64 y1) (.int .i64 y2)
 exact bodyPost_ret (results_cell_row rfl _ _ b4 26 _ (0, 0) _ rfl q Tryz.underlying26 rfl (by kernel_rfl)) rfl ⟨rfl, qb⟩
set_option maxRecDepth 100000 in
set_option maxHeartbeats 4000000 in
theorem vfits_tells (a0 a1 a2 : Int) : ∃ k, Tells 94 #[vec a0 a1 a2] (.bool k) := by
 obtain ⟨y0, y1, y2, h⟩ := clamp_tells a0 a1 a2 288230376151711744 288230376151711744 288230376151711744
 refine ⟨(a0 == y0 && (a1 == y1 && a2 == y2)), fun w hG => ?_⟩
 have HE := am h
 have HG := am hG
 clear h hG
 unfold vec at HE ⊢
 go_enter Tryz.func94, Tryz.ntmps94
 go_upto_region 1 with fail
 have HX := am (blk_new w (.cells #[.int .i64 a0, .int .i64 a1, .int .i64 a2] 26))
 have HB := am (below_alloc (Below.refl w.heap.size w) (.cells #[.int .i64 a0, .int .i64 a1, .int .i64 a2] 26))
 generalize w.alloc (.cells #[.int .i64 a0, .int .i64 a1, .int .i64 a2] 26) = w1 at HX HB ⊢
 generalize w.heap.size = b1 at HX ⊢
 refine start_ (n := 6) (S := fun w' => w'.heap[b1]? = some (.cells #[.int .i64 a0, .int .i64 a1, .int .i64 a2] 26 (0, 0))) (ds := []) (flg 6 0) (by kernel_rfl) rfl rfl HX.out (fun hHeld => ?_)
 replace HX := am (blk_drew HX.out)
 replace HB := am (below_drew HB.out)
 generalize w1.drew = wd at HX HB hHeld ⊢
 refine take_ (i := 0) (N := (some 3)) (v := ?_) (a' := ?_) (flg 6 1) rfl rfl (by kernel_rfl) (fun _ _ _ h => h) (Or.inl ⟨by rfl, ?_⟩) hHeld ?_ ?_
 rotate_left
 ·
  rintro w' s0
  have x0 := bcl s0 0 rfl
  have x1 := bcl s0 1 rfl
  have x2 := bcl s0 2 rfl
  go_simp
  with_reducible rfl
 rotate_left
 ·
  simp only [pw]
  rfl
 refine take_ (i := 1) (N := (some 4)) (v := ?_) (a' := ?_) (flg 6 3) rfl rfl (by kernel_rfl) (fun _ _ _ h => h) (Or.inl ⟨by rfl, ?_⟩) hHeld ?_ ?_
 rotate_left
 ·
  rintro w' s0
  have x0 := bcl s0 0 rfl
  have x1 := bcl s0 1 rfl
  have x2 := bcl s0 2 rfl
  go_simp
  with_reducible rfl
 rotate_left
 ·
  simp only [pw]
  rfl
 refine pure_ (i := 2) (N := (some 5)) (v := ?_) (a' := ?_) (flg 6 7) rfl rfl (by kernel_rfl) (fun _ _ _ h => h) (Or.inl ⟨by rfl, ?_⟩) ?_ ?_
 rotate_left
 ·
  intro w'
  go_simp
  with_reducible rfl
 rotate_left
 ·
  simp only [pw]
  rfl
 refine one_ (i := 3) (N := (some 6)) (flg 6 15) rfl rfl (by kernel_rfl) (by decide) (fun K hK => ?_)
 refine goes_ Tryz.func125 (by kernel_rfl) rfl #[.agg #[.int .i64 a0, .int .i64 a1, .int .i64 a2], .agg #[.int .i64 288230376151711744, .int .i64 288230376151711744, .int .i64 288230376151711744]] (by rfl) rfl rfl (by (try simp only [List.map_toArray, List.map_cons, List.map_nil]); first | done | rfl) ?_
 refine (HE.out wd (HG.out.below HB.out)).mono ?_
 rintro e we ⟨rfl, hb⟩
 replace HX := am (blk_below HX.out hb)
 replace HB := am (below_step HB.out hb)
 clear hb hHeld
 refine ⟨_, rfl, ?_⟩
 refine hK.out _ _ HX.out (fun hHeld => ?_)
 clear hK K
 refine norm_ (a' := ?_) ?_ ?_
 rotate_left
 ·
  show Act.put _ (some 6) _ = _
  simp only [pw]
  rfl
 refine pure_ (i := 4) (N := (some 7)) (v := ?_) (a' := ?_) (flg 6 31) rfl rfl (by kernel_rfl) (fun _ _ _ h => h) (Or.inl ⟨by rfl, ?_⟩) ?_ ?_
 rotate_left
 ·
  intro w'
  go_simp
  with_reducible rfl
 rotate_left
 ·
  simp only [pw]
  rfl
 refine pure_ (i := 5) (N := (some 2)) (v := ?_) (a' := ?_) (flg 6 63) rfl rfl (by kernel_rfl) (fun _ _ _ h => h) (Or.inl ⟨by rfl, ?_⟩) ?_ ?_
 rotate_left
 ·
  intro w'
  go_simp
  with_reducible rfl
 rotate_left
 ·
  simp only [pw]
  rfl
 refine done_ (by kernel_rfl) ?_
 go_wp2_with fail
 go_ret
 exact ⟨rfl, HB.out⟩
set_option maxRecDepth 100000 in
set_option maxHeartbeats 4000000 in
theorem vadd_tells (a0 a1 a2 c0 c1 c2 : Int) : ∃ r0 r1 r2 e, Tells 96 #[vec a0 a1 a2, vec c0 c1 c2] (.tuple #[vec r0 r1 r2, .int .i64 e]) := by
 obtain ⟨ka, ha⟩ := vfits_tells a0 a1 a2
 obtain ⟨kc, hc⟩ := vfits_tells c0 c1 c2
 obtain ⟨y0, e0, hd0⟩ := add_tells a0 c0
 obtain ⟨y1, e1, hd1⟩ := add_tells a1 c1
 obtain ⟨y2, e2, hd2⟩ := add_tells a2 c2
 have HA := am ha
 have HC := am hc
 have HE := am (each_tells a0 a1 a2 c0 c1 c2 105 #[] (fun _ => True) (fun _ _ _ _ => trivial) (fun _ _ => by kernel_rfl) y0 e0 y1 e1 y2 e2 (hd0.p _) (hd1.p _) (hd2.p _))
 clear ha hc hd0 hd1 hd2
 unfold vec at HA HC HE
 generalize RR e0 e1 e2 y0 = z0 at HE
 generalize RR e0 e1 e2 y1 = z1 at HE
 generalize RR e0 e1 e2 y2 = z2 at HE
 generalize EE e0 e1 e2 = ze at HE
 cases ka with
 | false =>
  refine ⟨0, 0, 0, 1, fun w hG => ?_⟩
  have HG := am hG
  clear hG
  unfold vec
  go_enter Tryz.func96, Tryz.ntmps96
  go_upto_region 1 with fail
  obtain ⟨x2, x3, x4, hB⟩ := blocks3 w #[.int .i64 a0, .int .i64 a1, .int .i64 a2] #[.int .i64 c0, .int .i64 c1, .int .i64 c2] #[.int .i64 0, .int .i64 0, .int .i64 0] 26 26 26
  generalize ((w.alloc (.cells #[.int .i64 a0, .int .i64 a1, .int .i64 a2] 26)).alloc (.cells #[.int .i64 c0, .int .i64 c1, .int .i64 c2] 26)).alloc (.cells #[.int .i64 0, .int .i64 0, .int .i64 0] 26) = w1 at x2 x3 x4 hB ⊢
  obtain ⟨b2, h2⟩ : ∃ b, b = w.heap.size := ⟨_, rfl⟩
  obtain ⟨b3, h3⟩ : ∃ b, b = w.heap.size + 1 := ⟨_, rfl⟩
  obtain ⟨b4, h4⟩ : ∃ b, b = w.heap.size + 1 + 1 := ⟨_, rfl⟩
  have g4 : w.heap.size ≤ b4 := by omega
  rw [← h4, ← h3, ← h2]
  rw [← h4] at x4
  rw [← h3] at x3
  rw [← h2] at x2
  have H2 := am x2
  have H3 := am x3
  have H4 := am x4
  have HB := am hB
  clear x2 x3 x4 hB h2 h3 h4
  have y20 := bcl H2.out 0 rfl
  have y21 := bcl H2.out 1 rfl
  have y22 := bcl H2.out 2 rfl
  have y30 := bcl H3.out 0 rfl
  have y31 := bcl H3.out 1 rfl
  have y32 := bcl H3.out 2 rfl
  go_wp2_with fail
  refine (HA.out w1 (HG.out.below HB.out)).mono ?_
  rintro e w2 ⟨rfl, hb⟩
  clear y20 y21 y22 y30 y31 y32
  replace H2 := am (blk_below H2.out hb)
  replace H3 := am (blk_below H3.out hb)
  replace H4 := am (blk_below H4.out hb)
  replace HB := am (below_step HB.out hb)
  clear hb
  have y20 := bcl H2.out 0 rfl
  have y21 := bcl H2.out 1 rfl
  have y22 := bcl H2.out 2 rfl
  have y30 := bcl H3.out 0 rfl
  have y31 := bcl H3.out 1 rfl
  have y32 := bcl H3.out 2 rfl
  have y40 := bcl H4.out 0 rfl
  have f40 := bfz H4.out 0
  have y41 := bcl H4.out 1 rfl
  have f41 := bfz H4.out 1
  have y42 := bcl H4.out 2 rfl
  have f42 := bfz H4.out 2
  go_wp2_with fail
  obtain ⟨q, qb⟩ := three_set rfl H4.out g4 HB.out (.int .i64 0) (.int .i64 0) (.int .i64 0)
  exact bodyPost_ret (results_ct rfl _ _ b4 26 _ (0, 0) _ rfl q Tryz.underlying26 rfl (by kernel_rfl)) rfl ⟨rfl, qb⟩
 | true =>
  cases kc with
  | false =>
   refine ⟨0, 0, 0, 1, fun w hG => ?_⟩
   have HG := am hG
   clear hG
   unfold vec
   go_enter Tryz.func96, Tryz.ntmps96
   go_upto_region 1 with fail
   obtain ⟨x2, x3, x4, hB⟩ := blocks3 w #[.int .i64 a0, .int .i64 a1, .int .i64 a2] #[.int .i64 c0, .int .i64 c1, .int .i64 c2] #[.int .i64 0, .int .i64 0, .int .i64 0] 26 26 26
   generalize ((w.alloc (.cells #[.int .i64 a0, .int .i64 a1, .int .i64 a2] 26)).alloc (.cells #[.int .i64 c0, .int .i64 c1, .int .i64 c2] 26)).alloc (.cells #[.int .i64 0, .int .i64 0, .int .i64 0] 26) = w1 at x2 x3 x4 hB ⊢
   obtain ⟨b2, h2⟩ : ∃ b, b = w.heap.size := ⟨_, rfl⟩
   obtain ⟨b3, h3⟩ : ∃ b, b = w.heap.size + 1 := ⟨_, rfl⟩
   obtain ⟨b4, h4⟩ : ∃ b, b = w.heap.size + 1 + 1 := ⟨_, rfl⟩
   have g4 : w.heap.size ≤ b4 := by omega
   rw [← h4, ← h3, ← h2]
   rw [← h4] at x4
   rw [← h3] at x3
   rw [← h2] at x2
   have H2 := am x2
   have H3 := am x3
   have H4 := am x4
   have HB := am hB
   clear x2 x3 x4 hB h2 h3 h4
   have y20 := bcl H2.out 0 rfl
   have y21 := bcl H2.out 1 rfl
   have y22 := bcl H2.out 2 rfl
   have y30 := bcl H3.out 0 rfl
   have y31 := bcl H3.out 1 rfl
   have y32 := bcl H3.out 2 rfl
   go_wp2_with fail
   refine (HA.out w1 (HG.out.below HB.out)).mono ?_
   rintro e w2 ⟨rfl, hb⟩
   clear y20 y21 y22 y30 y31 y32
   replace H2 := am (blk_below H2.out hb)
   replace H3 := am (blk_below H3.out hb)
   replace H4 := am (blk_below H4.out hb)
   replace HB := am (below_step HB.out hb)
   clear hb
   have y20 := bcl H2.out 0 rfl
   have y21 := bcl H2.out 1 rfl
   have y22 := bcl H2.out 2 rfl
   have y30 := bcl H3.out 0 rfl
   have y31 := bcl H3.out 1 rfl
   have y32 := bcl H3.out 2 rfl
   have y40 := bcl H4.out 0 rfl
   have f40 := bfz H4.out 0
   have y41 := bcl H4.out 1 rfl
   have f41 := bfz H4.out 1
   have y42 := bcl H4.out 2 rfl
   have f42 := bfz H4.out 2
   go_wp2_with fail
   refine (HC.out w2 (HG.out.below HB.out)).mono ?_
   rintro e w3 ⟨rfl, hb⟩
   clear y20 y21 y22 y30 y31 y32 y40 y41 y42 f40 f41 f42
   replace H2 := am (blk_below H2.out hb)
   replace H3 := am (blk_below H3.out hb)
   replace H4 := am (blk_below H4.out hb)
   replace HB := am (below_step HB.out hb)
   clear hb
   have y20 := bcl H2.out 0 rfl
   have y21 := bcl H2.out 1 rfl
   have y22 := bcl H2.out 2 rfl
   have y30 := bcl H3.out 0 rfl
   have y31 := bcl H3.out 1 rfl
   have y32 := bcl H3.out 2 rfl
   have y40 := bcl H4.out 0 rfl
   have f40 := bfz H4.out 0
   have y41 := bcl H4.out 1 rfl
   have f41 := bfz H4.out 1
   have y42 := bcl H4.out 2 rfl
   have f42 := bfz H4.out 2
   go_wp2_with fail
   obtain ⟨q, qb⟩ := three_set rfl H4.out g4 HB.out (.int .i64 0) (.int .i64 0) (.int .i64 0)
   exact bodyPost_ret (results_ct rfl _ _ b4 26 _ (0, 0) _ rfl q Tryz.underlying26 rfl (by kernel_rfl)) rfl ⟨rfl, qb⟩
  | true =>
   refine ⟨z0, z1, z2, ze, fun w hG => ?_⟩
   have HG := am hG
   clear hG
   unfold vec
   go_enter Tryz.func96, Tryz.ntmps96
   go_upto_region 1 with fail
   obtain ⟨x2, x3, x4, hB⟩ := blocks3 w #[.int .i64 a0, .int .i64 a1, .int .i64 a2] #[.int .i64 c0, .int .i64 c1, .int .i64 c2] #[.int .i64 0, .int .i64 0, .int .i64 0] 26 26 26
   generalize ((w.alloc (.cells #[.int .i64 a0, .int .i64 a1, .int .i64 a2] 26)).alloc (.cells #[.int .i64 c0, .int .i64 c1, .int .i64 c2] 26)).alloc (.cells #[.int .i64 0, .int .i64 0, .int .i64 0] 26) = w1 at x2 x3 x4 hB ⊢
   obtain ⟨b2, h2⟩ : ∃ b, b = w.heap.size := ⟨_, rfl⟩
   obtain ⟨b3, h3⟩ : ∃ b, b = w.heap.size + 1 := ⟨_, rfl⟩
   obtain ⟨b4, h4⟩ : ∃ b, b = w.heap.size + 1 + 1 := ⟨_, rfl⟩
   have g4 : w.heap.size ≤ b4 := by omega
   rw [← h4, ← h3, ← h2]
   rw [← h4] at x4
   rw [← h3] at x3
   rw [← h2] at x2
   have H2 := am x2
   have H3 := am x3
   have H4 := am x4
   have HB := am hB
   clear x2 x3 x4 hB h2 h3 h4
   have y20 := bcl H2.out 0 rfl
   have y21 := bcl H2.out 1 rfl
   have y22 := bcl H2.out 2 rfl
   have y30 := bcl H3.out 0 rfl
   have y31 := bcl H3.out 1 rfl
   have y32 := bcl H3.out 2 rfl
   go_wp2_with fail
   refine (HA.out w1 (HG.out.below HB.out)).mono ?_
   rintro e w2 ⟨rfl, hb⟩
   clear y20 y21 y22 y30 y31 y32
   replace H2 := am (blk_below H2.out hb)
   replace H3 := am (blk_below H3.out hb)
   replace H4 := am (blk_below H4.out hb)
   replace HB := am (below_step HB.out hb)
   clear hb
   have y20 := bcl H2.out 0 rfl
   have y21 := bcl H2.out 1 rfl
   have y22 := bcl H2.out 2 rfl
   have y30 := bcl H3.out 0 rfl
   have y31 := bcl H3.out 1 rfl
   have y32 := bcl H3.out 2 rfl
   have y40 := bcl H4.out 0 rfl
   have f40 := bfz H4.out 0
   have y41 := bcl H4.out 1 rfl
   have f41 := bfz H4.out 1
   have y42 := bcl H4.out 2 rfl
   have f42 := bfz H4.out 2
   go_wp2_with fail
   refine (HC.out w2 (HG.out.below HB.out)).mono ?_
   rintro e w3 ⟨rfl, hb⟩
   clear y20 y21 y22 y30 y31 y32 y40 y41 y42 f40 f41 f42
   replace H2 := am (blk_below H2.out hb)
   replace H3 := am (blk_below H3.out hb)
   replace H4 := am (blk_below H4.out hb)
   replace HB := am (below_step HB.out hb)
   clear hb
   have y20 := bcl H2.out 0 rfl
   have y21 := bcl H2.out 1 rfl
   have y22 := bcl H2.out 2 rfl
   have y30 := bcl H3.out 0 rfl
   have y31 := bcl H3.out 1 rfl
   have y32 := bcl H3.out 2 rfl
   have y40 := bcl H4.out 0 rfl
   have f40 := bfz H4.out 0
   have y41 := bcl H4.out 1 rfl
   have f41 := bfz H4.out 1
   have y42 := bcl H4.out 2 rfl
   have f42 := bfz H4.out 2
   go_wp2_with fail
   refine (HE.out w3 (HG.out.below HB.out) trivial).mono ?_
   rintro e w4 ⟨rfl, hb⟩
   clear y20 y21 y22 y30 y31 y32 y40 y41 y42 f40 f41 f42
   replace H2 := am (blk_below H2.out hb)
   replace H3 := am (blk_below H3.out hb)
   replace H4 := am (blk_below H4.out hb)
   replace HB := am (below_step HB.out hb)
   clear hb
   have y40 := bcl H4.out 0 rfl
   have f40 := bfz H4.out 0
   have y41 := bcl H4.out 1 rfl
   have f41 := bfz H4.out 1
   have y42 := bcl H4.out 2 rfl
   have f42 := bfz H4.out 2
   go_wp2_with fail
   obtain ⟨q, qb⟩ := three_set rfl H4.out g4 HB.out (.int .i64 z0) (.int .i64 z1) (.int .i64 z2)
   exact bodyPost_ret (results_ct rfl _ _ b4 26 _ (0, 0) _ rfl q Tryz.underlying26 rfl (by kernel_rfl)) rfl ⟨rfl, qb⟩
set_option maxRecDepth 100000 in
set_option maxHeartbeats 4000000 in
theorem scale1_tells (b : Nat) (x z k r e : Int) (hm : Tells 116 #[.int .i64 x, .int .i64 k] (Ch.two r e)) : TellsP (fun w => w.heap[b]? = some (.cells #[.int .i64 k] 2 (0, 0))) 145 #[.int .i64 x, .int .i64 z, .pointer (some ⟨b, 0, none⟩)] (Ch.two r e) := by
 intro w hG hp
 have H := am (hm w hG)
 have x0 := bcl hp 0 rfl
 clear hm hG hp
 unfold Ch.two at H ⊢
 go_enter Tryz.func145, Tryz.ntmps145
 go_wp2_with fail
 refine H.out.mono ?_
 rintro e w1 ⟨rfl, hb⟩
 go_wp2_with fail
 go_ret2
 exact ⟨rfl, hb⟩
set_option maxRecDepth 100000 in
set_option maxHeartbeats 4000000 in
theorem vscale_tells (a0 a1 a2 k : Int) : ∃ r0 r1 r2 e, Tells 112 #[vec a0 a1 a2, .int .i64 k] (.tuple #[vec r0 r1 r2, .int .i64 e]) := by
 obtain ⟨ka, ha⟩ := vfits_tells a0 a1 a2
 obtain ⟨y0, e0, hd0⟩ := fmul_tells a0 k
 obtain ⟨y1, e1, hd1⟩ := fmul_tells a1 k
 obtain ⟨y2, e2, hd2⟩ := fmul_tells a2 k
 have HA := am ha
 have HE := am (fun b => each_tells a0 a1 a2 a0 a1 a2 145 #[.pointer (some ⟨b, 0, none⟩)] (fun w => w.heap[b]? = some (.cells #[.int .i64 k] 2 (0, 0))) (fun _ _ h hb => blk_below h hb) (fun _ _ => by kernel_rfl) y0 e0 y1 e1 y2 e2 (scale1_tells b a0 a0 k y0 e0 hd0) (scale1_tells b a1 a1 k y1 e1 hd1) (scale1_tells b a2 a2 k y2 e2 hd2))
 clear ha hd0 hd1 hd2
 unfold vec at HA HE
 generalize RR e0 e1 e2 y0 = z0 at HE
 generalize RR e0 e1 e2 y1 = z1 at HE
 generalize RR e0 e1 e2 y2 = z2 at HE
 generalize EE e0 e1 e2 = ze at HE
 cases ka with
 | false =>
  refine ⟨0, 0, 0, 1, fun w hG => ?_⟩
  have HG := am hG
  clear hG
  unfold vec
  go_enter Tryz.func112, Tryz.ntmps112
  go_upto_region 1 with fail
  obtain ⟨x2, x3, x4, hB⟩ := blocks3 w #[.int .i64 a0, .int .i64 a1, .int .i64 a2] #[.int .i64 k] #[.int .i64 0, .int .i64 0, .int .i64 0] 26 2 26
  generalize ((w.alloc (.cells #[.int .i64 a0, .int .i64 a1, .int .i64 a2] 26)).alloc (.cells #[.int .i64 k] 2)).alloc (.cells #[.int .i64 0, .int .i64 0, .int .i64 0] 26) = w1 at x2 x3 x4 hB ⊢
  obtain ⟨b2, h2⟩ : ∃ b, b = w.heap.size := ⟨_, rfl⟩
  obtain ⟨b3, h3⟩ : ∃ b, b = w.heap.size + 1 := ⟨_, rfl⟩
  obtain ⟨b4, h4⟩ : ∃ b, b = w.heap.size + 1 + 1 := ⟨_, rfl⟩
  have g4 : w.heap.size ≤ b4 := by omega
  rw [← h4, ← h3, ← h2]
  rw [← h4] at x4
  rw [← h3] at x3
  rw [← h2] at x2
  have H2 := am x2
  have H3 := am x3
  have H4 := am x4
  have HB := am hB
  clear x2 x3 x4 hB h2 h3 h4
  have y20 := bcl H2.out 0 rfl
  have y21 := bcl H2.out 1 rfl
  have y22 := bcl H2.out 2 rfl
  have y30 := bcl H3.out 0 rfl
  go_wp2_with fail
  refine (HA.out w1 (HG.out.below HB.out)).mono ?_
  rintro e w2 ⟨rfl, hb⟩
  clear y20 y21 y22 y30
  replace H2 := am (blk_below H2.out hb)
  replace H3 := am (blk_below H3.out hb)
  replace H4 := am (blk_below H4.out hb)
  replace HB := am (below_step HB.out hb)
  clear hb
  have y20 := bcl H2.out 0 rfl
  have y21 := bcl H2.out 1 rfl
  have y22 := bcl H2.out 2 rfl
  have y30 := bcl H3.out 0 rfl
  have y40 := bcl H4.out 0 rfl
  have f40 := bfz H4.out 0
  have y41 := bcl H4.out 1 rfl
  have f41 := bfz H4.out 1
  have y42 := bcl H4.out 2 rfl
  have f42 := bfz H4.out 2
  have hmk := mk_func
  go_wp2_with fail
  obtain ⟨q, qb⟩ := three_set rfl H4.out g4 HB.out (.int .i64 0) (.int .i64 0) (.int .i64 0)
  exact bodyPost_ret (results_ct rfl _ _ b4 26 _ (0, 0) _ rfl q Tryz.underlying26 rfl (by kernel_rfl)) rfl ⟨rfl, qb⟩
 | true =>
  cases hk : fits k with
  | false =>
   have HF := am hk
   clear hk
   refine ⟨0, 0, 0, 1, fun w hG => ?_⟩
   have HG := am hG
   clear hG
   unfold vec
   go_enter Tryz.func112, Tryz.ntmps112
   go_upto_region 1 with fail
   obtain ⟨x2, x3, x4, hB⟩ := blocks3 w #[.int .i64 a0, .int .i64 a1, .int .i64 a2] #[.int .i64 k] #[.int .i64 0, .int .i64 0, .int .i64 0] 26 2 26
   generalize ((w.alloc (.cells #[.int .i64 a0, .int .i64 a1, .int .i64 a2] 26)).alloc (.cells #[.int .i64 k] 2)).alloc (.cells #[.int .i64 0, .int .i64 0, .int .i64 0] 26) = w1 at x2 x3 x4 hB ⊢
   obtain ⟨b2, h2⟩ : ∃ b, b = w.heap.size := ⟨_, rfl⟩
   obtain ⟨b3, h3⟩ : ∃ b, b = w.heap.size + 1 := ⟨_, rfl⟩
   obtain ⟨b4, h4⟩ : ∃ b, b = w.heap.size + 1 + 1 := ⟨_, rfl⟩
   have g4 : w.heap.size ≤ b4 := by omega
   rw [← h4, ← h3, ← h2]
   rw [← h4] at x4
   rw [← h3] at x3
   rw [← h2] at x2
   have H2 := am x2
   have H3 := am x3
   have H4 := am x4
   have HB := am hB
   clear x2 x3 x4 hB h2 h3 h4
   have y20 := bcl H2.out 0 rfl
   have y21 := bcl H2.out 1 rfl
   have y22 := bcl H2.out 2 rfl
   have y30 := bcl H3.out 0 rfl
   go_wp2_with fail
   refine (HA.out w1 (HG.out.below HB.out)).mono ?_
   rintro e w2 ⟨rfl, hb⟩
   clear y20 y21 y22 y30
   replace H2 := am (blk_below H2.out hb)
   replace H3 := am (blk_below H3.out hb)
   replace H4 := am (blk_below H4.out hb)
   replace HB := am (below_step HB.out hb)
   clear hb
   have y20 := bcl H2.out 0 rfl
   have y21 := bcl H2.out 1 rfl
   have y22 := bcl H2.out 2 rfl
   have y30 := bcl H3.out 0 rfl
   have y40 := bcl H4.out 0 rfl
   have f40 := bfz H4.out 0
   have y41 := bcl H4.out 1 rfl
   have f41 := bfz H4.out 1
   have y42 := bcl H4.out 2 rfl
   have f42 := bfz H4.out 2
   have hmk := mk_func
   go_wp2_with fail
   refine (fits_any w2 k).mono ?_
   rintro e w3 ⟨rfl, rfl⟩
   rw [HF.out]
   go_wp2_with fail
   obtain ⟨q, qb⟩ := three_set rfl H4.out g4 HB.out (.int .i64 0) (.int .i64 0) (.int .i64 0)
   exact bodyPost_ret (results_ct rfl _ _ b4 26 _ (0, 0) _ rfl q Tryz.underlying26 rfl (by kernel_rfl)) rfl ⟨rfl, qb⟩
  | true =>
   have HF := am hk
   clear hk
   refine ⟨z0, z1, z2, ze, fun w hG => ?_⟩
   have HG := am hG
   clear hG
   unfold vec
   go_enter Tryz.func112, Tryz.ntmps112
   go_upto_region 1 with fail
   obtain ⟨x2, x3, x4, hB⟩ := blocks3 w #[.int .i64 a0, .int .i64 a1, .int .i64 a2] #[.int .i64 k] #[.int .i64 0, .int .i64 0, .int .i64 0] 26 2 26
   generalize ((w.alloc (.cells #[.int .i64 a0, .int .i64 a1, .int .i64 a2] 26)).alloc (.cells #[.int .i64 k] 2)).alloc (.cells #[.int .i64 0, .int .i64 0, .int .i64 0] 26) = w1 at x2 x3 x4 hB ⊢
   obtain ⟨b2, h2⟩ : ∃ b, b = w.heap.size := ⟨_, rfl⟩
   obtain ⟨b3, h3⟩ : ∃ b, b = w.heap.size + 1 := ⟨_, rfl⟩
   obtain ⟨b4, h4⟩ : ∃ b, b = w.heap.size + 1 + 1 := ⟨_, rfl⟩
   have g4 : w.heap.size ≤ b4 := by omega
   rw [← h4, ← h3, ← h2]
   rw [← h4] at x4
   rw [← h3] at x3
   rw [← h2] at x2
   have H2 := am x2
   have H3 := am x3
   have H4 := am x4
   have HB := am hB
   clear x2 x3 x4 hB h2 h3 h4
   have y20 := bcl H2.out 0 rfl
   have y21 := bcl H2.out 1 rfl
   have y22 := bcl H2.out 2 rfl
   have y30 := bcl H3.out 0 rfl
   go_wp2_with fail
   refine (HA.out w1 (HG.out.below HB.out)).mono ?_
   rintro e w2 ⟨rfl, hb⟩
   clear y20 y21 y22 y30
   replace H2 := am (blk_below H2.out hb)
   replace H3 := am (blk_below H3.out hb)
   replace H4 := am (blk_below H4.out hb)
   replace HB := am (below_step HB.out hb)
   clear hb
   have y20 := bcl H2.out 0 rfl
   have y21 := bcl H2.out 1 rfl
   have y22 := bcl H2.out 2 rfl
   have y30 := bcl H3.out 0 rfl
   have y40 := bcl H4.out 0 rfl
   have f40 := bfz H4.out 0
   have y41 := bcl H4.out 1 rfl
   have f41 := bfz H4.out 1
   have y42 := bcl H4.out 2 rfl
   have f42 := bfz H4.out 2
   have hmk := mk_func
   go_wp2_with fail
   refine (fits_any w2 k).mono ?_
   rintro e w3 ⟨rfl, rfl⟩
   rw [HF.out]
   go_wp2_with fail
   refine (HE.out b3 _ (HG.out.below HB.out) H3.out).mono ?_
   rintro e w4 ⟨rfl, hb⟩
   clear hmk
   clear y20 y21 y22 y30 y40 y41 y42 f40 f41 f42
   replace H2 := am (blk_below H2.out hb)
   replace H3 := am (blk_below H3.out hb)
   replace H4 := am (blk_below H4.out hb)
   replace HB := am (below_step HB.out hb)
   clear hb
   have y40 := bcl H4.out 0 rfl
   have f40 := bfz H4.out 0
   have y41 := bcl H4.out 1 rfl
   have f41 := bfz H4.out 1
   have y42 := bcl H4.out 2 rfl
   have f42 := bfz H4.out 2
   go_wp2_with fail
   obtain ⟨q, qb⟩ := three_set rfl H4.out g4 HB.out (.int .i64 z0) (.int .i64 z1) (.int .i64 z2)
   exact bodyPost_ret (results_ct rfl _ _ b4 26 _ (0, 0) _ rfl q Tryz.underlying26 rfl (by kernel_rfl)) rfl ⟨rfl, qb⟩
end Go.Proofs.YtpdahkgandaabaaGreatDoor.Ch
namespace Go.Proofs.YtpdahkgandaabaaGreatDoor.Ch
open Go.RowKit Go.Proofs.YtpdahkgandaabaaGreatDoorW.PrintWords Go.Proofs.YtpdahkgandaabaaGreatDoorW.PrintLast Go.Proofs.YtpdahkgandaabaaGreatDoorW.PrintMore Go.Proofs.YtpdahkgandaabaaGreatDoor.PTopNames Go.Proofs.YtpdahkgandaabaaGreatDoor.Al
set_option linter.unusedVariables false
set_option linter.unusedSimpArgs false
def sym (m0 m1 m2 m3 m4 m5 : Int) : Value := .agg #[.int .i64 m0, .int .i64 m1, .int .i64 m2, .int .i64 m3, .int .i64 m4, .int .i64 m5]
theorem six_set {w0 w : World} {b : Nat} {C : Array Value} (hC : C.size = 6) (hX : w.heap[b]? = some (.cells C 46 (0, 0))) (g : w0.heap.size ≤ b) (hB : Below w0.heap.size w0 w) (x0 x1 x2 x3 x4 x5 : Value) :
  ((((((w.setCell ⟨b, 0, none⟩ x0).setCell ⟨b, 1, none⟩ x1).setCell ⟨b, 2, none⟩ x2).setCell ⟨b, 3, none⟩ x3).setCell ⟨b, 4, none⟩ x4).setCell ⟨b, 5, none⟩ x5).heap[b]? = some (.cells #[x0, x1, x2, x3, x4, x5] 46 (0, 0)) ∧
  Below w0.heap.size w0 ((((((w.setCell ⟨b, 0, none⟩ x0).setCell ⟨b, 1, none⟩ x1).setCell ⟨b, 2, none⟩ x2).setCell ⟨b, 3, none⟩ x3).setCell ⟨b, 4, none⟩ x4).setCell ⟨b, 5, none⟩ x5) := by
 obtain ⟨c0, c1, c2, c3, c4, c5, rfl⟩ : ∃ c0 c1 c2 c3 c4 c5, C = #[c0, c1, c2, c3, c4, c5] := by
  obtain ⟨l⟩ := C
  match l, hC with
  | [c0, c1, c2, c3, c4, c5], _ => exact ⟨c0, c1, c2, c3, c4, c5, rfl⟩
 exact ⟨blk_set (blk_set (blk_set (blk_set (blk_set (blk_set hX 0 x0) 1 x1) 2 x2) 3 x3) 4 x4) 5 x5, (((((hB.setCell (p := ⟨b, 0, none⟩) g x0).setCell (p := ⟨b, 1, none⟩) g x1).setCell (p := ⟨b, 2, none⟩) g x2).setCell (p := ⟨b, 3, none⟩) g x3).setCell (p := ⟨b, 4, none⟩) g x4).setCell (p := ⟨b, 5, none⟩) g x5⟩
set_option maxRecDepth 100000 in
set_option maxHeartbeats 4000000 in
theorem place_tells (i j : Int) (hi : i = 0 ∨ i = 1 ∨ i = 2) (hj : j = 0 ∨ j = 1 ∨ j = 2) : ∃ k, (k = 0 ∨ k = 1 ∨ k = 2 ∨ k = 3 ∨ k = 4 ∨ k = 5) ∧ Tells 148 #[.int .i64 i, .int .i64 j] (Ch.two k 0) := by
 unfold Ch.two
 rcases hi with rfl | rfl | rfl <;> rcases hj with rfl | rfl | rfl
 ·
  refine ⟨0, by decide, fun w hG => ?_⟩
  have x : w.cell? ⟨3, 0, none⟩ = some (.int .i64 0) := hG.places 0
  clear hG
  go_enter Tryz.func148, Tryz.ntmps148
  go_wp2_with fail
  go_ret2
  exact ⟨rfl, Below.refl _ _⟩
 ·
  refine ⟨1, by decide, fun w hG => ?_⟩
  have x : w.cell? ⟨3, 1, none⟩ = some (.int .i64 1) := hG.places 1
  clear hG
  go_enter Tryz.func148, Tryz.ntmps148
  go_wp2_with fail
  go_ret2
  exact ⟨rfl, Below.refl _ _⟩
 ·
  refine ⟨2, by decide, fun w hG => ?_⟩
  have x : w.cell? ⟨3, 2, none⟩ = some (.int .i64 2) := hG.places 2
  clear hG
  go_enter Tryz.func148, Tryz.ntmps148
  go_wp2_with fail
  go_ret2
  exact ⟨rfl, Below.refl _ _⟩
 ·
  refine ⟨1, by decide, fun w hG => ?_⟩
  have x : w.cell? ⟨3, 3, none⟩ = some (.int .i64 1) := hG.places 3
  clear hG
  go_enter Tryz.func148, Tryz.ntmps148
  go_wp2_with fail
  go_ret2
  exact ⟨rfl, Below.refl _ _⟩
 ·
  refine ⟨3, by decide, fun w hG => ?_⟩
  have x : w.cell? ⟨3, 4, none⟩ = some (.int .i64 3) := hG.places 4
  clear hG
  go_enter Tryz.func148, Tryz.ntmps148
  go_wp2_with fail
  go_ret2
  exact ⟨rfl, Below.refl _ _⟩
 ·
  refine ⟨4, by decide, fun w hG => ?_⟩
  have x : w.cell? ⟨3, 5, none⟩ = some (.int .i64 4) := hG.places 5
  clear hG
  go_enter Tryz.func148, Tryz.ntmps148
  go_wp2_with fail
  go_ret2
  exact ⟨rfl, Below.refl _ _⟩
 ·
  refine ⟨2, by decide, fun w hG => ?_⟩
  have x : w.cell? ⟨3, 6, none⟩ = some (.int .i64 2) := hG.places 6
  clear hG
  go_enter Tryz.func148, Tryz.ntmps148
  go_wp2_with fail
  go_ret2
  exact ⟨rfl, Below.refl _ _⟩
 ·
  refine ⟨4, by decide, fun w hG => ?_⟩
  have x : w.cell? ⟨3, 7, none⟩ = some (.int .i64 4) := hG.places 7
  clear hG
  go_enter Tryz.func148, Tryz.ntmps148
  go_wp2_with fail
  go_ret2
  exact ⟨rfl, Below.refl _ _⟩
 ·
  refine ⟨5, by decide, fun w hG => ?_⟩
  have x : w.cell? ⟨3, 8, none⟩ = some (.int .i64 5) := hG.places 8
  clear hG
  go_enter Tryz.func148, Tryz.ntmps148
  go_wp2_with fail
  go_ret2
  exact ⟨rfl, Below.refl _ _⟩
set_option maxRecDepth 100000 in
set_option maxHeartbeats 4000000 in
theorem at_tells (m0 m1 m2 m3 m4 m5 i j : Int) (hi : i = 0 ∨ i = 1 ∨ i = 2) (hj : j = 0 ∨ j = 1 ∨ j = 2) : ∃ x, Tells 118 #[sym m0 m1 m2 m3 m4 m5, .int .i64 i, .int .i64 j] (Ch.two x 0) := by
 obtain ⟨k, hk, hp⟩ := place_tells i j hi hj
 have HP := am hp
 clear hp hi hj
 unfold Ch.two at HP ⊢
 unfold sym
 rcases hk with rfl | rfl | rfl | rfl | rfl | rfl
 ·
  refine ⟨m0, fun w hG => ?_⟩
  have HG := am hG
  clear hG
  go_enter Tryz.func118, Tryz.ntmps118
  go_upto_region 1 with fail
  have HX := am (blk_new w (.cells #[.int .i64 m0, .int .i64 m1, .int .i64 m2, .int .i64 m3, .int .i64 m4, .int .i64 m5] 46))
  have HB := am (below_alloc (Below.refl w.heap.size w) (.cells #[.int .i64 m0, .int .i64 m1, .int .i64 m2, .int .i64 m3, .int .i64 m4, .int .i64 m5] 46))
  generalize w.alloc (.cells #[.int .i64 m0, .int .i64 m1, .int .i64 m2, .int .i64 m3, .int .i64 m4, .int .i64 m5] 46) = w1 at HX HB ⊢
  generalize w.heap.size = b3 at HX ⊢
  go_wp2_with fail
  refine (HP.out w1 (HG.out.below HB.out)).mono ?_
  rintro e w2 ⟨rfl, hb⟩
  replace HX := am (blk_below HX.out hb)
  replace HB := am (below_step HB.out hb)
  clear hb
  have y30 := bcl HX.out 0 rfl
  have y31 := bcl HX.out 1 rfl
  have y32 := bcl HX.out 2 rfl
  have y33 := bcl HX.out 3 rfl
  have y34 := bcl HX.out 4 rfl
  have y35 := bcl HX.out 5 rfl
  go_wp2_with fail
  go_ret2
  exact ⟨rfl, HB.out⟩
 ·
  refine ⟨m1, fun w hG => ?_⟩
  have HG := am hG
  clear hG
  go_enter Tryz.func118, Tryz.ntmps118
  go_upto_region 1 with fail
  have HX := am (blk_new w (.cells #[.int .i64 m0, .int .i64 m1, .int .i64 m2, .int .i64 m3, .int .i64 m4, .int .i64 m5] 46))
  have HB := am (below_alloc (Below.refl w.heap.size w) (.cells #[.int .i64 m0, .int .i64 m1, .int .i64 m2, .int .i64 m3, .int .i64 m4, .int .i64 m5] 46))
  generalize w.alloc (.cells #[.int .i64 m0, .int .i64 m1, .int .i64 m2, .int .i64 m3, .int .i64 m4, .int .i64 m5] 46) = w1 at HX HB ⊢
  generalize w.heap.size = b3 at HX ⊢
  go_wp2_with fail
  refine (HP.out w1 (HG.out.below HB.out)).mono ?_
  rintro e w2 ⟨rfl, hb⟩
  replace HX := am (blk_below HX.out hb)
  replace HB := am (below_step HB.out hb)
  clear hb
  have y30 := bcl HX.out 0 rfl
  have y31 := bcl HX.out 1 rfl
  have y32 := bcl HX.out 2 rfl
  have y33 := bcl HX.out 3 rfl
  have y34 := bcl HX.out 4 rfl
  have y35 := bcl HX.out 5 rfl
  go_wp2_with fail
  go_ret2
  exact ⟨rfl, HB.out⟩
 ·
  refine ⟨m2, fun w hG => ?_⟩
  have HG := am hG
  clear hG
  go_enter Tryz.func118, Tryz.ntmps118
  go_upto_region 1 with fail
  have HX := am (blk_new w (.cells #[.int .i64 m0, .int .i64 m1, .int .i64 m2, .int .i64 m3, .int .i64 m4, .int .i64 m5] 46))
  have HB := am (below_alloc (Below.refl w.heap.size w) (.cells #[.int .i64 m0, .int .i64 m1, .int .i64 m2, .int .i64 m3, .int .i64 m4, .int .i64 m5] 46))
  generalize w.alloc (.cells #[.int .i64 m0, .int .i64 m1, .int .i64 m2, .int .i64 m3, .int .i64 m4, .int .i64 m5] 46) = w1 at HX HB ⊢
  generalize w.heap.size = b3 at HX ⊢
  go_wp2_with fail
  refine (HP.out w1 (HG.out.below HB.out)).mono ?_
  rintro e w2 ⟨rfl, hb⟩
  replace HX := am (blk_below HX.out hb)
  replace HB := am (below_step HB.out hb)
  clear hb
  have y30 := bcl HX.out 0 rfl
  have y31 := bcl HX.out 1 rfl
  have y32 := bcl HX.out 2 rfl
  have y33 := bcl HX.out 3 rfl
  have y34 := bcl HX.out 4 rfl
  have y35 := bcl HX.out 5 rfl
  go_wp2_with fail
  go_ret2
  exact ⟨rfl, HB.out⟩
 ·
  refine ⟨m3, fun w hG => ?_⟩
  have HG := am hG
  clear hG
  go_enter Tryz.func118, Tryz.ntmps118
  go_upto_region 1 with fail
  have HX := am (blk_new w (.cells #[.int .i64 m0, .int .i64 m1, .int .i64 m2, .int .i64 m3, .int .i64 m4, .int .i64 m5] 46))
  have HB := am (below_alloc (Below.refl w.heap.size w) (.cells #[.int .i64 m0, .int .i64 m1, .int .i64 m2, .int .i64 m3, .int .i64 m4, .int .i64 m5] 46))
  generalize w.alloc (.cells #[.int .i64 m0, .int .i64 m1, .int .i64 m2, .int .i64 m3, .int .i64 m4, .int .i64 m5] 46) = w1 at HX HB ⊢
  generalize w.heap.size = b3 at HX ⊢
  go_wp2_with fail
  refine (HP.out w1 (HG.out.below HB.out)).mono ?_
  rintro e w2 ⟨rfl, hb⟩
  replace HX := am (blk_below HX.out hb)
  replace HB := am (below_step HB.out hb)
  clear hb
  have y30 := bcl HX.out 0 rfl
  have y31 := bcl HX.out 1 rfl
  have y32 := bcl HX.out 2 rfl
  have y33 := bcl HX.out 3 rfl
  have y34 := bcl HX.out 4 rfl
  have y35 := bcl HX.out 5 rfl
  go_wp2_with fail
  go_ret2
  exact ⟨rfl, HB.out⟩
 ·
  refine ⟨m4, fun w hG => ?_⟩
  have HG := am hG
  clear hG
  go_enter Tryz.func118, Tryz.ntmps118
  go_upto_region 1 with fail
  have HX := am (blk_new w (.cells #[.int .i64 m0, .int .i64 m1, .int .i64 m2, .int .i64 m3, .int .i64 m4, .int .i64 m5] 46))
  have HB := am (below_alloc (Below.refl w.heap.size w) (.cells #[.int .i64 m0, .int .i64 m1, .int .i64 m2, .int .i64 m3, .int .i64 m4, .int .i64 m5] 46))
  generalize w.alloc (.cells #[.int .i64 m0, .int .i64 m1, .int .i64 m2, .int .i64 m3, .int .i64 m4, .int .i64 m5] 46) = w1 at HX HB ⊢
  generalize w.heap.size = b3 at HX ⊢
  go_wp2_with fail
  refine (HP.out w1 (HG.out.below HB.out)).mono ?_
  rintro e w2 ⟨rfl, hb⟩
  replace HX := am (blk_below HX.out hb)
  replace HB := am (below_step HB.out hb)
  clear hb
  have y30 := bcl HX.out 0 rfl
  have y31 := bcl HX.out 1 rfl
  have y32 := bcl HX.out 2 rfl
  have y33 := bcl HX.out 3 rfl
  have y34 := bcl HX.out 4 rfl
  have y35 := bcl HX.out 5 rfl
  go_wp2_with fail
  go_ret2
  exact ⟨rfl, HB.out⟩
 ·
  refine ⟨m5, fun w hG => ?_⟩
  have HG := am hG
  clear hG
  go_enter Tryz.func118, Tryz.ntmps118
  go_upto_region 1 with fail
  have HX := am (blk_new w (.cells #[.int .i64 m0, .int .i64 m1, .int .i64 m2, .int .i64 m3, .int .i64 m4, .int .i64 m5] 46))
  have HB := am (below_alloc (Below.refl w.heap.size w) (.cells #[.int .i64 m0, .int .i64 m1, .int .i64 m2, .int .i64 m3, .int .i64 m4, .int .i64 m5] 46))
  generalize w.alloc (.cells #[.int .i64 m0, .int .i64 m1, .int .i64 m2, .int .i64 m3, .int .i64 m4, .int .i64 m5] 46) = w1 at HX HB ⊢
  generalize w.heap.size = b3 at HX ⊢
  go_wp2_with fail
  refine (HP.out w1 (HG.out.below HB.out)).mono ?_
  rintro e w2 ⟨rfl, hb⟩
  replace HX := am (blk_below HX.out hb)
  replace HB := am (below_step HB.out hb)
  clear hb
  have y30 := bcl HX.out 0 rfl
  have y31 := bcl HX.out 1 rfl
  have y32 := bcl HX.out 2 rfl
  have y33 := bcl HX.out 3 rfl
  have y34 := bcl HX.out 4 rfl
  have y35 := bcl HX.out 5 rfl
  go_wp2_with fail
  go_ret2
  exact ⟨rfl, HB.out⟩
set_option maxRecDepth 100000 in
set_option maxHeartbeats 4000000 in
theorem put_tells (m0 m1 m2 m3 m4 m5 i j x : Int) (hi : i = 0 ∨ i = 1 ∨ i = 2) (hj : j = 0 ∨ j = 1 ∨ j = 2) : ∃ n0 n1 n2 n3 n4 n5, Tells 121 #[sym m0 m1 m2 m3 m4 m5, .int .i64 i, .int .i64 j, .int .i64 x] (.tuple #[sym n0 n1 n2 n3 n4 n5, .int .i64 0]) := by
 obtain ⟨k, hk, hp⟩ := place_tells i j hi hj
 have HP := am hp
 clear hp hi hj
 unfold Ch.two at HP
 unfold sym
 rcases hk with rfl | rfl | rfl | rfl | rfl | rfl
 ·
  refine ⟨x, m1, m2, m3, m4, m5, fun w hG => ?_⟩
  have HG := am hG
  clear hG
  go_enter Tryz.func121, Tryz.ntmps121
  go_upto_region 1 with fail
  obtain ⟨x2, x3, hB⟩ := blocks2 w #[.int .i64 m0, .int .i64 m1, .int .i64 m2, .int .i64 m3, .int .i64 m4, .int .i64 m5] #[.int .i64 0, .int .i64 0, .int .i64 0, .int .i64 0, .int .i64 0, .int .i64 0] 46 46
  generalize (w.alloc (.cells #[.int .i64 m0, .int .i64 m1, .int .i64 m2, .int .i64 m3, .int .i64 m4, .int .i64 m5] 46)).alloc (.cells #[.int .i64 0, .int .i64 0, .int .i64 0, .int .i64 0, .int .i64 0, .int .i64 0] 46) = w1 at x2 x3 hB ⊢
  obtain ⟨b4, h4⟩ : ∃ b, b = w.heap.size := ⟨_, rfl⟩
  obtain ⟨b8, h8⟩ : ∃ b, b = w.heap.size + 1 := ⟨_, rfl⟩
  have g4 : w.heap.size ≤ b4 := by omega
  have g8 : w.heap.size ≤ b8 := by omega
  have ne : b8 ≠ b4 := by omega
  rw [← h8, ← h4]
  rw [← h8] at x3
  rw [← h4] at x2
  have HX := am x2
  have HY := am x3
  have HB := am hB
  clear x2 x3 hB h4 h8
  go_wp2_with fail
  refine (HP.out w1 (HG.out.below HB.out)).mono ?_
  rintro e w2 ⟨rfl, hb⟩
  replace HX := am (blk_below HX.out hb)
  replace HY := am (blk_below HY.out hb)
  replace HB := am (below_step HB.out hb)
  clear hb
  have y40 := bcl HX.out 0 rfl
  have y41 := bcl HX.out 1 rfl
  have y42 := bcl HX.out 2 rfl
  have y43 := bcl HX.out 3 rfl
  have y44 := bcl HX.out 4 rfl
  have y45 := bcl HX.out 5 rfl
  have f4 := bfz HX.out 0
  go_upto_region 5 with fail
  have q := (blk_set HX.out 0 (.int .i64 x)).trans (show _ = some (Obj.cells #[.int .i64 x, .int .i64 m1, .int .i64 m2, .int .i64 m3, .int .i64 m4, .int .i64 m5] 46 (0, 0)) by kernel_rfl)
  have qy := blk_far HY.out (p := ⟨b4, 0, none⟩) ne (.int .i64 x)
  have qb := HB.out.setCell (p := ⟨b4, 0, none⟩) g4 (.int .i64 x)
  clear y40 y41 y42 y43 y44 y45 f4
  generalize w2.setCell ⟨b4, 0, none⟩ (.int .i64 x) = w3 at q qy qb ⊢
  replace HX := am q
  replace HY := am qy
  replace HB := am qb
  clear q qy qb
  have y40 := bcl HX.out 0 rfl
  have y41 := bcl HX.out 1 rfl
  have y42 := bcl HX.out 2 rfl
  have y43 := bcl HX.out 3 rfl
  have y44 := bcl HX.out 4 rfl
  have y45 := bcl HX.out 5 rfl
  have y80 := bcl HY.out 0 rfl
  have f80 := bfz HY.out 0
  have y81 := bcl HY.out 1 rfl
  have f81 := bfz HY.out 1
  have y82 := bcl HY.out 2 rfl
  have f82 := bfz HY.out 2
  have y83 := bcl HY.out 3 rfl
  have f83 := bfz HY.out 3
  have y84 := bcl HY.out 4 rfl
  have f84 := bfz HY.out 4
  have y85 := bcl HY.out 5 rfl
  have f85 := bfz HY.out 5
  go_wp2_with fail
  obtain ⟨q, qb⟩ := six_set rfl HY.out g8 HB.out (.int .i64 x) (.int .i64 m1) (.int .i64 m2) (.int .i64 m3) (.int .i64 m4) (.int .i64 m5)
  exact bodyPost_ret (results_ct rfl _ _ b8 46 _ (0, 0) _ rfl q Tryz.underlying46 rfl (by kernel_rfl)) rfl ⟨rfl, qb⟩
 ·
  refine ⟨m0, x, m2, m3, m4, m5, fun w hG => ?_⟩
  have HG := am hG
  clear hG
  go_enter Tryz.func121, Tryz.ntmps121
  go_upto_region 1 with fail
  obtain ⟨x2, x3, hB⟩ := blocks2 w #[.int .i64 m0, .int .i64 m1, .int .i64 m2, .int .i64 m3, .int .i64 m4, .int .i64 m5] #[.int .i64 0, .int .i64 0, .int .i64 0, .int .i64 0, .int .i64 0, .int .i64 0] 46 46
  generalize (w.alloc (.cells #[.int .i64 m0, .int .i64 m1, .int .i64 m2, .int .i64 m3, .int .i64 m4, .int .i64 m5] 46)).alloc (.cells #[.int .i64 0, .int .i64 0, .int .i64 0, .int .i64 0, .int .i64 0, .int .i64 0] 46) = w1 at x2 x3 hB ⊢
  obtain ⟨b4, h4⟩ : ∃ b, b = w.heap.size := ⟨_, rfl⟩
  obtain ⟨b8, h8⟩ : ∃ b, b = w.heap.size + 1 := ⟨_, rfl⟩
  have g4 : w.heap.size ≤ b4 := by omega
  have g8 : w.heap.size ≤ b8 := by omega
  have ne : b8 ≠ b4 := by omega
  rw [← h8, ← h4]
  rw [← h8] at x3
  rw [← h4] at x2
  have HX := am x2
  have HY := am x3
  have HB := am hB
  clear x2 x3 hB h4 h8
  go_wp2_with fail
  refine (HP.out w1 (HG.out.below HB.out)).mono ?_
  rintro e w2 ⟨rfl, hb⟩
  replace HX := am (blk_below HX.out hb)
  replace HY := am (blk_below HY.out hb)
  replace HB := am (below_step HB.out hb)
  clear hb
  have y40 := bcl HX.out 0 rfl
  have y41 := bcl HX.out 1 rfl
  have y42 := bcl HX.out 2 rfl
  have y43 := bcl HX.out 3 rfl
  have y44 := bcl HX.out 4 rfl
  have y45 := bcl HX.out 5 rfl
  have f4 := bfz HX.out 1
  go_upto_region 5 with fail
  have q := (blk_set HX.out 1 (.int .i64 x)).trans (show _ = some (Obj.cells #[.int .i64 m0, .int .i64 x, .int .i64 m2, .int .i64 m3, .int .i64 m4, .int .i64 m5] 46 (0, 0)) by kernel_rfl)
  have qy := blk_far HY.out (p := ⟨b4, 1, none⟩) ne (.int .i64 x)
  have qb := HB.out.setCell (p := ⟨b4, 1, none⟩) g4 (.int .i64 x)
  clear y40 y41 y42 y43 y44 y45 f4
  generalize w2.setCell ⟨b4, 1, none⟩ (.int .i64 x) = w3 at q qy qb ⊢
  replace HX := am q
  replace HY := am qy
  replace HB := am qb
  clear q qy qb
  have y40 := bcl HX.out 0 rfl
  have y41 := bcl HX.out 1 rfl
  have y42 := bcl HX.out 2 rfl
  have y43 := bcl HX.out 3 rfl
  have y44 := bcl HX.out 4 rfl
  have y45 := bcl HX.out 5 rfl
  have y80 := bcl HY.out 0 rfl
  have f80 := bfz HY.out 0
  have y81 := bcl HY.out 1 rfl
  have f81 := bfz HY.out 1
  have y82 := bcl HY.out 2 rfl
  have f82 := bfz HY.out 2
  have y83 := bcl HY.out 3 rfl
  have f83 := bfz HY.out 3
  have y84 := bcl HY.out 4 rfl
  have f84 := bfz HY.out 4
  have y85 := bcl HY.out 5 rfl
  have f85 := bfz HY.out 5
  go_wp2_with fail
  obtain ⟨q, qb⟩ := six_set rfl HY.out g8 HB.out (.int .i64 m0) (.int .i64 x) (.int .i64 m2) (.int .i64 m3) (.int .i64 m4) (.int .i64 m5)
  exact bodyPost_ret (results_ct rfl _ _ b8 46 _ (0, 0) _ rfl q Tryz.underlying46 rfl (by kernel_rfl)) rfl ⟨rfl, qb⟩
 ·
  refine ⟨m0, m1, x, m3, m4, m5, fun w hG => ?_⟩
  have HG := am hG
  clear hG
  go_enter Tryz.func121, Tryz.ntmps121
  go_upto_region 1 with fail
  obtain ⟨x2, x3, hB⟩ := blocks2 w #[.int .i64 m0, .int .i64 m1, .int .i64 m2, .int .i64 m3, .int .i64 m4, .int .i64 m5] #[.int .i64 0, .int .i64 0, .int .i64 0, .int .i64 0, .int .i64 0, .int .i64 0] 46 46
  generalize (w.alloc (.cells #[.int .i64 m0, .int .i64 m1, .int .i64 m2, .int .i64 m3, .int .i64 m4, .int .i64 m5] 46)).alloc (.cells #[.int .i64 0, .int .i64 0, .int .i64 0, .int .i64 0, .int .i64 0, .int .i64 0] 46) = w1 at x2 x3 hB ⊢
  obtain ⟨b4, h4⟩ : ∃ b, b = w.heap.size := ⟨_, rfl⟩
  obtain ⟨b8, h8⟩ : ∃ b, b = w.heap.size + 1 := ⟨_, rfl⟩
  have g4 : w.heap.size ≤ b4 := by omega
  have g8 : w.heap.size ≤ b8 := by omega
  have ne : b8 ≠ b4 := by omega
  rw [← h8, ← h4]
  rw [← h8] at x3
  rw [← h4] at x2
  have HX := am x2
  have HY := am x3
  have HB := am hB
  clear x2 x3 hB h4 h8
  go_wp2_with fail
  refine (HP.out w1 (HG.out.below HB.out)).mono ?_
  rintro e w2 ⟨rfl, hb⟩
  replace HX := am (blk_below HX.out hb)
  replace HY := am (blk_below HY.out hb)
  replace HB := am (below_step HB.out hb)
  clear hb
  have y40 := bcl HX.out 0 rfl
  have y41 := bcl HX.out 1 rfl
  have y42 := bcl HX.out 2 rfl
  have y43 := bcl HX.out 3 rfl
  have y44 := bcl HX.out 4 rfl
  have y45 := bcl HX.out 5 rfl
  have f4 := bfz HX.out 2
  go_upto_region 5 with fail
  have q := (blk_set HX.out 2 (.int .i64 x)).trans (show _ = some (Obj.cells #[.int .i64 m0, .int .i64 m1, .int .i64 x, .int .i64 m3, .int .i64 m4, .int .i64 m5] 46 (0, 0)) by kernel_rfl)
  have qy := blk_far HY.out (p := ⟨b4, 2, none⟩) ne (.int .i64 x)
  have qb := HB.out.setCell (p := ⟨b4, 2, none⟩) g4 (.int .i64 x)
  clear y40 y41 y42 y43 y44 y45 f4
  generalize w2.setCell ⟨b4, 2, none⟩ (.int .i64 x) = w3 at q qy qb ⊢
  replace HX := am q
  replace HY := am qy
  replace HB := am qb
  clear q qy qb
  have y40 := bcl HX.out 0 rfl
  have y41 := bcl HX.out 1 rfl
  have y42 := bcl HX.out 2 rfl
  have y43 := bcl HX.out 3 rfl
  have y44 := bcl HX.out 4 rfl
  have y45 := bcl HX.out 5 rfl
  have y80 := bcl HY.out 0 rfl
  have f80 := bfz HY.out 0
  have y81 := bcl HY.out 1 rfl
  have f81 := bfz HY.out 1
  have y82 := bcl HY.out 2 rfl
  have f82 := bfz HY.out 2
  have y83 := bcl HY.out 3 rfl
  have f83 := bfz HY.out 3
  have y84 := bcl HY.out 4 rfl
  have f84 := bfz HY.out 4
  have y85 := bcl HY.out 5 rfl
  have f85 := bfz HY.out 5
  go_wp2_with fail
  obtain ⟨q, qb⟩ := six_set rfl HY.out g8 HB.out (.int .i64 m0) (.int .i64 m1) (.int .i64 x) (.int .i64 m3) (.int .i64 m4) (.int .i64 m5)
  exact bodyPost_ret (results_ct rfl _ _ b8 46 _ (0, 0) _ rfl q Tryz.underlying46 rfl (by kernel_rfl)) rfl ⟨rfl, qb⟩
 ·
  refine ⟨m0, m1, m2, x, m4, m5, fun w hG => ?_⟩
  have HG := am hG
  clear hG
  go_enter Tryz.func121, Tryz.ntmps121
  go_upto_region 1 with fail
  obtain ⟨x2, x3, hB⟩ := blocks2 w #[.int .i64 m0, .int .i64 m1, .int .i64 m2, .int .i64 m3, .int .i64 m4, .int .i64 m5] #[.int .i64 0, .int .i64 0, .int .i64 0, .int .i64 0, .int .i64 0, .int .i64 0] 46 46
  generalize (w.alloc (.cells #[.int .i64 m0, .int .i64 m1, .int .i64 m2, .int .i64 m3, .int .i64 m4, .int .i64 m5] 46)).alloc (.cells #[.int .i64 0, .int .i64 0, .int .i64 0, .int .i64 0, .int .i64 0, .int .i64 0] 46) = w1 at x2 x3 hB ⊢
  obtain ⟨b4, h4⟩ : ∃ b, b = w.heap.size := ⟨_, rfl⟩
  obtain ⟨b8, h8⟩ : ∃ b, b = w.heap.size + 1 := ⟨_, rfl⟩
  have g4 : w.heap.size ≤ b4 := by omega
  have g8 : w.heap.size ≤ b8 := by omega
  have ne : b8 ≠ b4 := by omega
  rw [← h8, ← h4]
  rw [← h8] at x3
  rw [← h4] at x2
  have HX := am x2
  have HY := am x3
  have HB := am hB
  clear x2 x3 hB h4 h8
  go_wp2_with fail
  refine (HP.out w1 (HG.out.below HB.out)).mono ?_
  rintro e w2 ⟨rfl, hb⟩
  replace HX := am (blk_below HX.out hb)
  replace HY := am (blk_below HY.out hb)
  replace HB := am (below_step HB.out hb)
  clear hb
  have y40 := bcl HX.out 0 rfl
  have y41 := bcl HX.out 1 rfl
  have y42 := bcl HX.out 2 rfl
  have y43 := bcl HX.out 3 rfl
  have y44 := bcl HX.out 4 rfl
  have y45 := bcl HX.out 5 rfl
  have f4 := bfz HX.out 3
  go_upto_region 5 with fail
  have q := (blk_set HX.out 3 (.int .i64 x)).trans (show _ = some (Obj.cells #[.int .i64 m0, .int .i64 m1, .int .i64 m2, .int .i64 x, .int .i64 m4, .int .i64 m5] 46 (0, 0)) by kernel_rfl)
  have qy := blk_far HY.out (p := ⟨b4, 3, none⟩) ne (.int .i64 x)
  have qb := HB.out.setCell (p := ⟨b4, 3, none⟩) g4 (.int .i64 x)
  clear y40 y41 y42 y43 y44 y45 f4
  generalize w2.setCell ⟨b4, 3, none⟩ (.int .i64 x) = w3 at q qy qb ⊢
  replace HX := am q
  replace HY := am qy
  replace HB := am qb
  clear q qy qb
  have y40 := bcl HX.out 0 rfl
  have y41 := bcl HX.out 1 rfl
  have y42 := bcl HX.out 2 rfl
  have y43 := bcl HX.out 3 rfl
  have y44 := bcl HX.out 4 rfl
  have y45 := bcl HX.out 5 rfl
  have y80 := bcl HY.out 0 rfl
  have f80 := bfz HY.out 0
  have y81 := bcl HY.out 1 rfl
  have f81 := bfz HY.out 1
  have y82 := bcl HY.out 2 rfl
  have f82 := bfz HY.out 2
  have y83 := bcl HY.out 3 rfl
  have f83 := bfz HY.out 3
  have y84 := bcl HY.out 4 rfl
  have f84 := bfz HY.out 4
  have y85 := bcl HY.out 5 rfl
  have f85 := bfz HY.out 5
  go_wp2_with fail
  obtain ⟨q, qb⟩ := six_set rfl HY.out g8 HB.out (.int .i64 m0) (.int .i64 m1) (.int .i64 m2) (.int .i64 x) (.int .i64 m4) (.int .i64 m5)
  exact bodyPost_ret (results_ct rfl _ _ b8 46 _ (0, 0) _ rfl q Tryz.underlying46 rfl (by kernel_rfl)) rfl ⟨rfl, qb⟩
 ·
  refine ⟨m0, m1, m2, m3, x, m5, fun w hG => ?_⟩
  have HG := am hG
  clear hG
  go_enter Tryz.func121, Tryz.ntmps121
  go_upto_region 1 with fail
  obtain ⟨x2, x3, hB⟩ := blocks2 w #[.int .i64 m0, .int .i64 m1, .int .i64 m2, .int .i64 m3, .int .i64 m4, .int .i64 m5] #[.int .i64 0, .int .i64 0, .int .i64 0, .int .i64 0, .int .i64 0, .int .i64 0] 46 46
  generalize (w.alloc (.cells #[.int .i64 m0, .int .i64 m1, .int .i64 m2, .int .i64 m3, .int .i64 m4, .int .i64 m5] 46)).alloc (.cells #[.int .i64 0, .int .i64 0, .int .i64 0, .int .i64 0, .int .i64 0, .int .i64 0] 46) = w1 at x2 x3 hB ⊢
  obtain ⟨b4, h4⟩ : ∃ b, b = w.heap.size := ⟨_, rfl⟩
  obtain ⟨b8, h8⟩ : ∃ b, b = w.heap.size + 1 := ⟨_, rfl⟩
  have g4 : w.heap.size ≤ b4 := by omega
  have g8 : w.heap.size ≤ b8 := by omega
  have ne : b8 ≠ b4 := by omega
  rw [← h8, ← h4]
  rw [← h8] at x3
  rw [← h4] at x2
  have HX := am x2
  have HY := am x3
  have HB := am hB
  clear x2 x3 hB h4 h8
  go_wp2_with fail
  refine (HP.out w1 (HG.out.below HB.out)).mono ?_
  rintro e w2 ⟨rfl, hb⟩
  replace HX := am (blk_below HX.out hb)
  replace HY := am (blk_below HY.out hb)
  replace HB := am (below_step HB.out hb)
  clear hb
  have y40 := bcl HX.out 0 rfl
  have y41 := bcl HX.out 1 rfl
  have y42 := bcl HX.out 2 rfl
  have y43 := bcl HX.out 3 rfl
  have y44 := bcl HX.out 4 rfl
  have y45 := bcl HX.out 5 rfl
  have f4 := bfz HX.out 4
  go_upto_region 5 with fail
  have q := (blk_set HX.out 4 (.int .i64 x)).trans (show _ = some (Obj.cells #[.int .i64 m0, .int .i64 m1, .int .i64 m2, .int .i64 m3, .int .i64 x, .int .i64 m5] 46 (0, 0)) by kernel_rfl)
  have qy := blk_far HY.out (p := ⟨b4, 4, none⟩) ne (.int .i64 x)
  have qb := HB.out.setCell (p := ⟨b4, 4, none⟩) g4 (.int .i64 x)
  clear y40 y41 y42 y43 y44 y45 f4
  generalize w2.setCell ⟨b4, 4, none⟩ (.int .i64 x) = w3 at q qy qb ⊢
  replace HX := am q
  replace HY := am qy
  replace HB := am qb
  clear q qy qb
  have y40 := bcl HX.out 0 rfl
  have y41 := bcl HX.out 1 rfl
  have y42 := bcl HX.out 2 rfl
  have y43 := bcl HX.out 3 rfl
  have y44 := bcl HX.out 4 rfl
  have y45 := bcl HX.out 5 rfl
  have y80 := bcl HY.out 0 rfl
  have f80 := bfz HY.out 0
  have y81 := bcl HY.out 1 rfl
  have f81 := bfz HY.out 1
  have y82 := bcl HY.out 2 rfl
  have f82 := bfz HY.out 2
  have y83 := bcl HY.out 3 rfl
  have f83 := bfz HY.out 3
  have y84 := bcl HY.out 4 rfl
  have f84 := bfz HY.out 4
  have y85 := bcl HY.out 5 rfl
  have f85 := bfz HY.out 5
  go_wp2_with fail
  obtain ⟨q, qb⟩ := six_set rfl HY.out g8 HB.out (.int .i64 m0) (.int .i64 m1) (.int .i64 m2) (.int .i64 m3) (.int .i64 x) (.int .i64 m5)
  exact bodyPost_ret (results_ct rfl _ _ b8 46 _ (0, 0) _ rfl q Tryz.underlying46 rfl (by kernel_rfl)) rfl ⟨rfl, qb⟩
 ·
  refine ⟨m0, m1, m2, m3, m4, x, fun w hG => ?_⟩
  have HG := am hG
  clear hG
  go_enter Tryz.func121, Tryz.ntmps121
  go_upto_region 1 with fail
  obtain ⟨x2, x3, hB⟩ := blocks2 w #[.int .i64 m0, .int .i64 m1, .int .i64 m2, .int .i64 m3, .int .i64 m4, .int .i64 m5] #[.int .i64 0, .int .i64 0, .int .i64 0, .int .i64 0, .int .i64 0, .int .i64 0] 46 46
  generalize (w.alloc (.cells #[.int .i64 m0, .int .i64 m1, .int .i64 m2, .int .i64 m3, .int .i64 m4, .int .i64 m5] 46)).alloc (.cells #[.int .i64 0, .int .i64 0, .int .i64 0, .int .i64 0, .int .i64 0, .int .i64 0] 46) = w1 at x2 x3 hB ⊢
  obtain ⟨b4, h4⟩ : ∃ b, b = w.heap.size := ⟨_, rfl⟩
  obtain ⟨b8, h8⟩ : ∃ b, b = w.heap.size + 1 := ⟨_, rfl⟩
  have g4 : w.heap.size ≤ b4 := by omega
  have g8 : w.heap.size ≤ b8 := by omega
  have ne : b8 ≠ b4 := by omega
  rw [← h8, ← h4]
  rw [← h8] at x3
  rw [← h4] at x2
  have HX := am x2
  have HY := am x3
  have HB := am hB
  clear x2 x3 hB h4 h8
  go_wp2_with fail
  refine (HP.out w1 (HG.out.below HB.out)).mono ?_
  rintro e w2 ⟨rfl, hb⟩
  replace HX := am (blk_below HX.out hb)
  replace HY := am (blk_below HY.out hb)
  replace HB := am (below_step HB.out hb)
  clear hb
  have y40 := bcl HX.out 0 rfl
  have y41 := bcl HX.out 1 rfl
  have y42 := bcl HX.out 2 rfl
  have y43 := bcl HX.out 3 rfl
  have y44 := bcl HX.out 4 rfl
  have y45 := bcl HX.out 5 rfl
  have f4 := bfz HX.out 5
  go_upto_region 5 with fail
  have q := (blk_set HX.out 5 (.int .i64 x)).trans (show _ = some (Obj.cells #[.int .i64 m0, .int .i64 m1, .int .i64 m2, .int .i64 m3, .int .i64 m4, .int .i64 x] 46 (0, 0)) by kernel_rfl)
  have qy := blk_far HY.out (p := ⟨b4, 5, none⟩) ne (.int .i64 x)
  have qb := HB.out.setCell (p := ⟨b4, 5, none⟩) g4 (.int .i64 x)
  clear y40 y41 y42 y43 y44 y45 f4
  generalize w2.setCell ⟨b4, 5, none⟩ (.int .i64 x) = w3 at q qy qb ⊢
  replace HX := am q
  replace HY := am qy
  replace HB := am qb
  clear q qy qb
  have y40 := bcl HX.out 0 rfl
  have y41 := bcl HX.out 1 rfl
  have y42 := bcl HX.out 2 rfl
  have y43 := bcl HX.out 3 rfl
  have y44 := bcl HX.out 4 rfl
  have y45 := bcl HX.out 5 rfl
  have y80 := bcl HY.out 0 rfl
  have f80 := bfz HY.out 0
  have y81 := bcl HY.out 1 rfl
  have f81 := bfz HY.out 1
  have y82 := bcl HY.out 2 rfl
  have f82 := bfz HY.out 2
  have y83 := bcl HY.out 3 rfl
  have f83 := bfz HY.out 3
  have y84 := bcl HY.out 4 rfl
  have f84 := bfz HY.out 4
  have y85 := bcl HY.out 5 rfl
  have f85 := bfz HY.out 5
  go_wp2_with fail
  obtain ⟨q, qb⟩ := six_set rfl HY.out g8 HB.out (.int .i64 m0) (.int .i64 m1) (.int .i64 m2) (.int .i64 m3) (.int .i64 m4) (.int .i64 x)
  exact bodyPost_ret (results_ct rfl _ _ b8 46 _ (0, 0) _ rfl q Tryz.underlying46 rfl (by kernel_rfl)) rfl ⟨rfl, qb⟩
set_option maxRecDepth 100000 in
set_option maxHeartbeats 4000000 in
theorem main_tells (m0 m1 m2 m3 m4 m5 : Int) : Tells 137 #[sym m0 m1 m2 m3 m4 m5] (vec m0 m3 m5) := by
 intro w hG
 unfold sym vec
 go_enter Tryz.func137, Tryz.ntmps137
 go_wp2_with fail
 refine bodyPost_ret (results_cell_row rfl _ _ (w.heap.size + 1) 26 #[.int .i64 m0, .int .i64 m3, .int .i64 m5] (0, 0) _ rfl (blocks2 w _ _ 46 26).2.1 Tryz.underlying26 rfl (by kernel_rfl)) rfl ?_
 exact ⟨rfl, below_alloc (below_alloc (Below.refl _ _) _) _⟩
set_option maxRecDepth 100000 in
set_option maxHeartbeats 4000000 in
theorem sfits_tells (m0 m1 m2 m3 m4 m5 : Int) : Tells 136 #[sym m0 m1 m2 m3 m4 m5] (.bool (fits m0 && (fits m1 && (fits m2 && (fits m3 && (fits m4 && (fits m5))))))) := by
 intro w hG
 unfold sym
 clear hG
 have i0 : ∀ w, (Instr.index 46 (.agg #[.int .i64 m0, .int .i64 m1, .int .i64 m2, .int .i64 m3, .int .i64 m4, .int .i64 m5]) (.int .i64 0)).run Tryz.prog w = .ok (.int .i64 m0) w := fun _ => by kernel_rfl
 have i1 : ∀ w, (Instr.index 46 (.agg #[.int .i64 m0, .int .i64 m1, .int .i64 m2, .int .i64 m3, .int .i64 m4, .int .i64 m5]) (.int .i64 1)).run Tryz.prog w = .ok (.int .i64 m1) w := fun _ => by kernel_rfl
 have i2 : ∀ w, (Instr.index 46 (.agg #[.int .i64 m0, .int .i64 m1, .int .i64 m2, .int .i64 m3, .int .i64 m4, .int .i64 m5]) (.int .i64 2)).run Tryz.prog w = .ok (.int .i64 m2) w := fun _ => by kernel_rfl
 have i3 : ∀ w, (Instr.index 46 (.agg #[.int .i64 m0, .int .i64 m1, .int .i64 m2, .int .i64 m3, .int .i64 m4, .int .i64 m5]) (.int .i64 3)).run Tryz.prog w = .ok (.int .i64 m3) w := fun _ => by kernel_rfl
 have i4 : ∀ w, (Instr.index 46 (.agg #[.int .i64 m0, .int .i64 m1, .int .i64 m2, .int .i64 m3, .int .i64 m4, .int .i64 m5]) (.int .i64 4)).run Tryz.prog w = .ok (.int .i64 m4) w := fun _ => by kernel_rfl
 have i5 : ∀ w, (Instr.index 46 (.agg #[.int .i64 m0, .int .i64 m1, .int .i64 m2, .int .i64 m3, .int .i64 m4, .int .i64 m5]) (.int .i64 5)).run Tryz.prog w = .ok (.int .i64 m5) w := fun _ => by kernel_rfl
 go_enter Tryz.func136, Tryz.ntmps136
 go_upto_region 1 with fail
 have HX := am (blk_new w (.cells #[.int .i64 m0, .int .i64 m1, .int .i64 m2, .int .i64 m3, .int .i64 m4, .int .i64 m5] 46))
 have HB := am (below_alloc (Below.refl w.heap.size w) (.cells #[.int .i64 m0, .int .i64 m1, .int .i64 m2, .int .i64 m3, .int .i64 m4, .int .i64 m5] 46))
 generalize w.alloc (.cells #[.int .i64 m0, .int .i64 m1, .int .i64 m2, .int .i64 m3, .int .i64 m4, .int .i64 m5] 46) = w1 at HX HB ⊢
 obtain ⟨b1, h1⟩ : ∃ b, b = w.heap.size := ⟨_, rfl⟩
 rw [← h1] at HX ⊢
 clear h1
 have y10 := bcl HX.out 0 rfl
 have y11 := bcl HX.out 1 rfl
 have y12 := bcl HX.out 2 rfl
 have y13 := bcl HX.out 3 rfl
 have y14 := bcl HX.out 4 rfl
 have y15 := bcl HX.out 5 rfl
 go_wp2_with fail
 clear y10 y11 y12 y13 y14 y15 HX
 go_loopw [6] (fun v6 wr => ∃ k : Int, (0 ≤ k ∧ k ≤ 6) ∧ v6 = .int .i64 k ∧ Aside0 (Below w.heap.size w wr) ∧ Aside0 ((1 ≤ k → fits m0 = true) ∧ (2 ≤ k → fits m1 = true) ∧ (3 ≤ k → fits m2 = true) ∧ (4 ≤ k → fits m3 = true) ∧ (5 ≤ k → fits m4 = true) ∧ (6 ≤ k → fits m5 = true))) (fun v6 _ => 7 - (intOf v6).toNat)
 case atStart => exact ⟨0, by decide, rfl, HB, ⟨by simp⟩⟩
 case round =>
  clear HB
  obtain ⟨k, hk, rfl, HB, HK⟩ := hrel
  have hk4 : k = 0 ∨ k = 1 ∨ k = 2 ∨ k = 3 ∨ k = 4 ∨ k = 5 ∨ k = 6 := by omega
  clear hk
  rcases hk4 with rfl | rfl | rfl | rfl | rfl | rfl | rfl
  ·
   skip
   clear HK
   go_wp2_with fail
   refine (fits_any wr m0).mono ?_
   rintro e w2 ⟨rfl, rfl⟩
   cases hf : fits m0 with
   | true =>
    have HM0 := am hf
    clear hf
    go_wp2_with fail
    go_roundw
    case rel => exact ⟨1, by decide, rfl, HB, ⟨by simp [HM0.out]⟩⟩
    case measure => decide
   | false =>
    have HM0 := am hf
    clear hf
    go_wp2_with fail
    go_ret
    exact ⟨by simp [HM0.out], HB.out⟩
  ·
   skip
   have HM0 := am (HK.out.1 (by decide))
   clear HK
   go_wp2_with fail
   refine (fits_any wr m1).mono ?_
   rintro e w2 ⟨rfl, rfl⟩
   cases hf : fits m1 with
   | true =>
    have HM1 := am hf
    clear hf
    go_wp2_with fail
    go_roundw
    case rel => exact ⟨2, by decide, rfl, HB, ⟨by simp [HM0.out, HM1.out]⟩⟩
    case measure => decide
   | false =>
    have HM1 := am hf
    clear hf
    go_wp2_with fail
    go_ret
    exact ⟨by simp [HM0.out, HM1.out], HB.out⟩
  ·
   skip
   have HM0 := am (HK.out.1 (by decide))
   have HM1 := am (HK.out.2.1 (by decide))
   clear HK
   go_wp2_with fail
   refine (fits_any wr m2).mono ?_
   rintro e w2 ⟨rfl, rfl⟩
   cases hf : fits m2 with
   | true =>
    have HM2 := am hf
    clear hf
    go_wp2_with fail
    go_roundw
    case rel => exact ⟨3, by decide, rfl, HB, ⟨by simp [HM0.out, HM1.out, HM2.out]⟩⟩
    case measure => decide
   | false =>
    have HM2 := am hf
    clear hf
    go_wp2_with fail
    go_ret
    exact ⟨by simp [HM0.out, HM1.out, HM2.out], HB.out⟩
  ·
   skip
   have HM0 := am (HK.out.1 (by decide))
   have HM1 := am (HK.out.2.1 (by decide))
   have HM2 := am (HK.out.2.2.1 (by decide))
   clear HK
   go_wp2_with fail
   refine (fits_any wr m3).mono ?_
   rintro e w2 ⟨rfl, rfl⟩
   cases hf : fits m3 with
   | true =>
    have HM3 := am hf
    clear hf
    go_wp2_with fail
    go_roundw
    case rel => exact ⟨4, by decide, rfl, HB, ⟨by simp [HM0.out, HM1.out, HM2.out, HM3.out]⟩⟩
    case measure => decide
   | false =>
    have HM3 := am hf
    clear hf
    go_wp2_with fail
    go_ret
    exact ⟨by simp [HM0.out, HM1.out, HM2.out, HM3.out], HB.out⟩
  ·
   skip
   have HM0 := am (HK.out.1 (by decide))
   have HM1 := am (HK.out.2.1 (by decide))
   have HM2 := am (HK.out.2.2.1 (by decide))
   have HM3 := am (HK.out.2.2.2.1 (by decide))
   clear HK
   go_wp2_with fail
   refine (fits_any wr m4).mono ?_
   rintro e w2 ⟨rfl, rfl⟩
   cases hf : fits m4 with
   | true =>
    have HM4 := am hf
    clear hf
    go_wp2_with fail
    go_roundw
    case rel => exact ⟨5, by decide, rfl, HB, ⟨by simp [HM0.out, HM1.out, HM2.out, HM3.out, HM4.out]⟩⟩
    case measure => decide
   | false =>
    have HM4 := am hf
    clear hf
    go_wp2_with fail
    go_ret
    exact ⟨by simp [HM0.out, HM1.out, HM2.out, HM3.out, HM4.out], HB.out⟩
  ·
   skip
   have HM0 := am (HK.out.1 (by decide))
   have HM1 := am (HK.out.2.1 (by decide))
   have HM2 := am (HK.out.2.2.1 (by decide))
   have HM3 := am (HK.out.2.2.2.1 (by decide))
   have HM4 := am (HK.out.2.2.2.2.1 (by decide))
   clear HK
   go_wp2_with fail
   refine (fits_any wr m5).mono ?_
   rintro e w2 ⟨rfl, rfl⟩
   cases hf : fits m5 with
   | true =>
    have HM5 := am hf
    clear hf
    go_wp2_with fail
    go_roundw
    case rel => exact ⟨6, by decide, rfl, HB, ⟨by simp [HM0.out, HM1.out, HM2.out, HM3.out, HM4.out, HM5.out]⟩⟩
    case measure => decide
   | false =>
    have HM5 := am hf
    clear hf
    go_wp2_with fail
    go_ret
    exact ⟨by simp [HM0.out, HM1.out, HM2.out, HM3.out, HM4.out, HM5.out], HB.out⟩
  ·
   skip
   have HM0 := am (HK.out.1 (by decide))
   have HM1 := am (HK.out.2.1 (by decide))
   have HM2 := am (HK.out.2.2.1 (by decide))
   have HM3 := am (HK.out.2.2.2.1 (by decide))
   have HM4 := am (HK.out.2.2.2.2.1 (by decide))
   have HM5 := am (HK.out.2.2.2.2.2 (by decide))
   clear HK
   go_wp2_with fail
   go_ret
   exact ⟨by simp [HM0.out, HM1.out, HM2.out, HM3.out, HM4.out, HM5.out], HB.out⟩
end Go.Proofs.YtpdahkgandaabaaGreatDoor.Ch
