/- A part of the proof of TopAgain, where the package's tables hold what their initialisers lay. -/
import Derived.Test.YtpdahkgandaabaaGreatDoorT01
import Derived.Test.YtpdahkgandaabaaGreatDoorT07
import Derived.Test.YtpdahkgandaabaaGreatDoorT09
import Derived.Test.YtpdahkgandaabaaGreatDoorT10
namespace Go.Proofs.YtpdahkgandaabaaGreatDoor.Ch
open Go.RowKit Go.Proofs.YtpdahkgandaabaaGreatDoorW.PrintWords Go.Proofs.YtpdahkgandaabaaGreatDoorW.PrintLast Go.Proofs.YtpdahkgandaabaaGreatDoorW.PrintMore Go.Proofs.YtpdahkgandaabaaGreatDoor.PTopNames Go.Proofs.YtpdahkgandaabaaGreatDoor.Al
set_option linter.unusedVariables false
set_option linter.unusedSimpArgs false
abbrev Sx := Nat → Int
def sxA (q : Sx) : Array Value := #[.int .i64 (q 0), .int .i64 (q 1), .int .i64 (q 2), .int .i64 (q 3), .int .i64 (q 4), .int .i64 (q 5)]
def r3 (x0 x1 x2 : Int) (k : Nat) : Int := if k = 0 then x0 else if k = 1 then x1 else x2
theorem r3_get {W : World} {b : Nat} {x0 x1 x2 i : Int} (h0 : 0 ≤ i) (h1 : i < 3) (h : W.heap[b]? = some (.cells #[x0, x1, x2] 26 (0, 0))) : W.cell? ⟨b, i.toNat, none⟩ = some (.int .i64 (r3 x0 x1 x2 i.toNat)) := by
 refine (blk_cell h _).trans ?_
 obtain rfl | rfl | rfl : i = 0 ∨ i = 1 ∨ i = 2 := by omega
 all_goals rfl
def PutStep (m0 m1 m2 m3 m4 m5 : Int) (D F : Nat → Int) (Q : Nat → Sx) (i j c : Int) : Prop :=
 ∃ z t u, Tells 118 #[sym m0 m1 m2 m3 m4 m5, i, j] (Ch.two z 0) ∧ Tells 139 #[.int .i64 (wrap64 (D i.toNat - F i.toNat)), .int .i64 (wrap64 (D j.toNat - F j.toNat))] (.int .i64 t) ∧ fix_Clamp.f z t = some u ∧
  Tells 121 #[.agg (sxA (Q c.toNat)), i, j, u] (.tuple #[.agg (sxA (Q (c.toNat + 1))), ()])
def Turn (i j c : Int) : Prop := (i = 1 ∧ j = 0 ∧ c = 0) ∨ (i = 2 ∧ j = 0 ∧ c = 1) ∨ (i = 2 ∧ j = 1 ∧ c = 2)
theorem put1_ex (m0 m1 m2 m3 m4 m5 : Int) (D F : Nat → Int) (q : Sx) (i j : Int) (hi : i = 0 ∨ i = 1 ∨ i = 2) (hj : j = 0 ∨ j = 1 ∨ j = 2) : ∃ q' : Sx, ∃ z t u, Tells 118 #[sym m0 m1 m2 m3 m4 m5, i, j] (Ch.two z 0) ∧ Tells 139 #[.int .i64 (wrap64 (D i.toNat - F i.toNat)), .int .i64 (wrap64 (D j.toNat - F j.toNat))] (.int .i64 t) ∧ fix_Clamp.f z t = some u ∧
  Tells 121 #[.agg (sxA q), i, j, .int .i64 u] (.tuple #[.agg (sxA q'), ()]) := by
 obtain ⟨z, ha⟩ := at_tells m0 m1 m2 m3 m4 m5 i j hi hj
 obtain ⟨t, ht⟩ := rmean_tells (wrap64 (D i.toNat - F i.toNat)) (wrap64 (D j.toNat - F j.toNat))
 obtain ⟨u, hu⟩ : ∃ u, fix_Clamp.f z t = some u := ⟨_, rfl⟩
 obtain ⟨n0, n1, n2, n3, n4, n5, hp⟩ := put_tells (q 0) (q 1) (q 2) (q 3) (q 4) (q 5) i j u hi hj
 exact ⟨fun k => if k = 0 then n0 else if k = 1 then n1 else if k = 2 then n2 else if k = 3 then n3 else if k = 4 then n4 else n5, z, t, u, ha, ht, hu, hp⟩
theorem puts_ex (m0 m1 m2 m3 m4 m5 : Int) (D F : Nat → Int) (q0 : Sx) : ∃ Q : Nat → Sx, Q 0 = q0 ∧ ∀ i j c, Turn i j c → PutStep m0 m1 m2 m3 m4 m5 D F Q i j c := by
 obtain ⟨q1, h1⟩ := put1_ex m0 m1 m2 m3 m4 m5 D F q0 1 0 (by decide) (by decide)
 obtain ⟨q2, h2⟩ := put1_ex m0 m1 m2 m3 m4 m5 D F q1 2 0 (by decide) (by decide)
 obtain ⟨q3, h3⟩ := put1_ex m0 m1 m2 m3 m4 m5 D F q2 2 1 (by decide) (by decide)
 refine ⟨fun c => if c = 0 then q0 else if c = 1 then q1 else if c = 2 then q2 else q3, rfl, fun i j c h => ?_⟩
 rcases h with ⟨rfl, rfl, rfl⟩ | ⟨rfl, rfl, rfl⟩ | ⟨rfl, rfl, rfl⟩
 ·
  exact h1
 ·
  exact h2
 exact h3
theorem lit84 (T : Array Value) (h : T.size = 84) : ∃ S : Nat → Value, T = #[S 0, S 1, S 2, S 3, S 4, S 5, S 6, S 7, S 8, S 9, S 10, S 11, S 12, S 13, S 14, S 15, S 16, S 17, S 18, S 19, S 20, S 21, S 22, S 23, S 24, S 25, S 26, S 27, S 28, S 29, S 30, S 31, S 32, S 33, S 34, S 35, S 36, S 37, S 38, S 39, S 40, S 41, S 42, S 43, S 44, S 45, S 46, S 47, S 48, S 49, S 50, S 51, S 52, S 53, S 54, S 55, S 56, S 57, S 58, S 59, S 60, S 61, S 62, S 63, S 64, S 65, S 66, S 67, S 68, S 69, S 70, S 71, S 72, S 73, S 74, S 75, S 76, S 77, S 78, S 79, S 80, S 81, S 82, S 83] := by
 refine ⟨fun k => T.getD k undef, ?_⟩
 refine (show T = ((List.range 84).map (fun k => T.getD k undef)).toArray from ?_).trans rfl
 apply Array.ext
 ·
  simp [h]
 intro i h1 h2
 simp [h1]
theorem lit84_6 (T : Array Value) (v3 v4 v6 v8 v10 v41 : Value) (h : T.size = 84) (e3 : T.getD 3 undef = v3) (e4 : T.getD 4 undef = v4) (e6 : T.getD 6 undef = v6) (e8 : T.getD 8 undef = v8) (e10 : T.getD 10 undef = v10) (e41 : T.getD 41 undef = v41) : ∃ S : Nat → Value, T = #[S 0, S 1, S 2, v3, v4, S 5, v6, S 7, v8, S 9, v10, S 11, S 12, S 13, S 14, S 15, S 16, S 17, S 18, S 19, S 20, S 21, S 22, S 23, S 24, S 25, S 26, S 27, S 28, S 29, S 30, S 31, S 32, S 33, S 34, S 35, S 36, S 37, S 38, S 39, S 40, v41, S 42, S 43, S 44, S 45, S 46, S 47, S 48, S 49, S 50, S 51, S 52, S 53, S 54, S 55, S 56, S 57, S 58, S 59, S 60, S 61, S 62, S 63, S 64, S 65, S 66, S 67, S 68, S 69, S 70, S 71, S 72, S 73, S 74, S 75, S 76, S 77, S 78, S 79, S 80, S 81, S 82, S 83] := by
 obtain ⟨S, rfl⟩ := lit84 T h
 replace e3 : S 3 = v3 := e3
 replace e4 : S 4 = v4 := e4
 replace e6 : S 6 = v6 := e6
 replace e8 : S 8 = v8 := e8
 replace e10 : S 10 = v10 := e10
 replace e41 : S 41 = v41 := e41
 exact ⟨S, by rw [← e3, ← e4, ← e6, ← e8, ← e10, ← e41]⟩
theorem lit84_8 (T : Array Value) (v3 v4 v6 v8 v10 v11 v41 v44 : Value) (h : T.size = 84) (e3 : T.getD 3 undef = v3) (e4 : T.getD 4 undef = v4) (e6 : T.getD 6 undef = v6) (e8 : T.getD 8 undef = v8) (e10 : T.getD 10 undef = v10) (e11 : T.getD 11 undef = v11) (e41 : T.getD 41 undef = v41) (e44 : T.getD 44 undef = v44) : ∃ S : Nat → Value, T = #[S 0, S 1, S 2, v3, v4, S 5, v6, S 7, v8, S 9, v10, v11, S 12, S 13, S 14, S 15, S 16, S 17, S 18, S 19, S 20, S 21, S 22, S 23, S 24, S 25, S 26, S 27, S 28, S 29, S 30, S 31, S 32, S 33, S 34, S 35, S 36, S 37, S 38, S 39, S 40, v41, S 42, S 43, v44, S 45, S 46, S 47, S 48, S 49, S 50, S 51, S 52, S 53, S 54, S 55, S 56, S 57, S 58, S 59, S 60, S 61, S 62, S 63, S 64, S 65, S 66, S 67, S 68, S 69, S 70, S 71, S 72, S 73, S 74, S 75, S 76, S 77, S 78, S 79, S 80, S 81, S 82, S 83] := by
 obtain ⟨S, rfl⟩ := lit84 T h
 replace e3 : S 3 = v3 := e3
 replace e4 : S 4 = v4 := e4
 replace e6 : S 6 = v6 := e6
 replace e8 : S 8 = v8 := e8
 replace e10 : S 10 = v10 := e10
 replace e11 : S 11 = v11 := e11
 replace e41 : S 41 = v41 := e41
 replace e44 : S 44 = v44 := e44
 exact ⟨S, by rw [← e3, ← e4, ← e6, ← e8, ← e10, ← e11, ← e41, ← e44]⟩
def tmO (w : World) (b3 b4 b6 b8 b10 : Nat) (m0 m1 m2 m3 m4 m5 f0 f1 f2 d0 d1 d2 : Int) (Q : Nat → Sx) (n : Nat) (a : Act) (w' : World) : Prop := ∃ (iz c : Int), a.tmps.size = 84 ∧ a.defers = [] ∧ a.tmps.getD 3 undef = .pointer (some ⟨b3, 0, none⟩) ∧ a.tmps.getD 4 undef = .pointer (some ⟨b4, 0, none⟩) ∧ a.tmps.getD 6 undef = .pointer (some ⟨b6, 0, none⟩) ∧ a.tmps.getD 8 undef = .pointer (some ⟨b8, 0, none⟩) ∧ a.tmps.getD 10 undef = .pointer (some ⟨b10, 0, none⟩) ∧ a.tmps.getD 41 undef = .int .i64 iz ∧ ((n = 0 ∧ iz = 0 ∧ c = 0) ∨ (n = 1 ∧ iz = 1 ∧ c = 0) ∨ (n = 2 ∧ iz = 2 ∧ c = 1) ∨ (n = 3 ∧ iz = 3 ∧ c = 3)) ∧ Aside0 (w'.heap[b3]? = some (.cells #[m0, m1, m2, m3, m4, m5] 46 (0, 0))) ∧ Aside0 (w'.heap[b4]? = some (.cells #[f0, f1, f2] 26 (0, 0))) ∧ Aside0 (w'.heap[b6]? = some (.cells #[(), (), (), (), (), ()] 46 (0, 0))) ∧ Aside0 (w'.heap[b8]? = some (.cells #[d0, d1, d2] 26 (0, 0))) ∧ Aside0 (w'.heap[b10]? = some (.cells #[.int .i64 (Q c.toNat 0), .int .i64 (Q c.toNat 1), .int .i64 (Q c.toNat 2), .int .i64 (Q c.toNat 3), .int .i64 (Q c.toNat 4), .int .i64 (Q c.toNat 5)] 46 (0, 0))) ∧ Aside0 (Below w.heap.size w w')
def tmI (w : World) (b3 b4 b6 b8 b10 : Nat) (m0 m1 m2 m3 m4 m5 f0 f1 f2 d0 d1 d2 : Int) (Q : Nat → Sx) (c0 iz : Int) (k : Nat) (a : Act) (w' : World) : Prop := ∃ (jz c : Int), a.tmps.size = 84 ∧ a.defers = [] ∧ a.tmps.getD 3 undef = .pointer (some ⟨b3, 0, none⟩) ∧ a.tmps.getD 4 undef = .pointer (some ⟨b4, 0, none⟩) ∧ a.tmps.getD 6 undef = .pointer (some ⟨b6, 0, none⟩) ∧ a.tmps.getD 8 undef = .pointer (some ⟨b8, 0, none⟩) ∧ a.tmps.getD 10 undef = .pointer (some ⟨b10, 0, none⟩) ∧ a.tmps.getD 11 undef = .int .i64 iz ∧ a.tmps.getD 41 undef = .int .i64 iz ∧ a.tmps.getD 44 undef = .int .i64 jz ∧ (jz = k ∧ c = c0 + k ∧ jz ≤ iz) ∧ Aside0 (w'.heap[b3]? = some (.cells #[m0, m1, m2, m3, m4, m5] 46 (0, 0))) ∧ Aside0 (w'.heap[b4]? = some (.cells #[f0, f1, f2] 26 (0, 0))) ∧ Aside0 (w'.heap[b6]? = some (.cells #[(), (), (), (), (), ()] 46 (0, 0))) ∧ Aside0 (w'.heap[b8]? = some (.cells #[d0, d1, d2] 26 (0, 0))) ∧ Aside0 (w'.heap[b10]? = some (.cells #[.int .i64 (Q c.toNat 0), .int .i64 (Q c.toNat 1), .int .i64 (Q c.toNat 2), .int .i64 (Q c.toNat 3), .int .i64 (Q c.toNat 4), .int .i64 (Q c.toNat 5)] 46 (0, 0))) ∧ Aside0 (Below w.heap.size w w')
set_option maxRecDepth 100000 in
set_option maxHeartbeats 4000000 in
theorem tame_tells (m0 m1 m2 m3 m4 m5 f0 f1 f2 c0 c1 c2 : Int) : ∃ r0 r1 r2 r3 r4 r5 e, Tells 101 #[sym m0 m1 m2 m3 m4 m5, vec f0 f1 f2, vec c0 c1 c2] (.tuple #[sym r0 r1 r2 r3 r4 r5, .int .i64 e]) := by
 cases hm : (Ch.m1 f0 c0 && (Ch.m1 f1 c1 && Ch.m1 f2 c2)) with
 | false =>
  have HM := am hm
  clear hm
  refine ⟨0, 0, 0, 0, 0, 0, 1, fun w hG => ?_⟩
  unfold vec sym at *
  have HG := am hG
  clear hG
  go_enter Tryz.func101, Tryz.ntmps101
  go_upto_region 1 with fail
  obtain ⟨x3', x4', x5', x6', hB⟩ := blocks4 w #[m0, m1, m2, m3, m4, m5] #[f0, f1, f2] #[c0, c1, c2] #[(), (), (), (), (), ()] 46 26 26 46
  generalize (((w.alloc (.cells #[m0, m1, m2, m3, m4, m5] 46)).alloc (.cells #[f0, f1, f2] 26)).alloc (.cells #[c0, c1, c2] 26)).alloc (.cells #[(), (), (), (), (), ()] 46) = w1 at x3' x4' x5' x6' hB ⊢
  obtain ⟨b3, h3⟩ := e_x (w.heap.size)
  obtain ⟨b4, h4⟩ := e_x (w.heap.size + 1)
  obtain ⟨b5, h5⟩ := e_x (w.heap.size + 1 + 1)
  obtain ⟨b6, h6⟩ := e_x (w.heap.size + 1 + 1 + 1)
  have g3 : w.heap.size ≤ b3 := by omega
  have g4 : w.heap.size ≤ b4 := by omega
  have g5 : w.heap.size ≤ b5 := by omega
  have g6 : w.heap.size ≤ b6 := by omega
  have n3_4 : b3 ≠ b4 := by omega
  have n3_5 : b3 ≠ b5 := by omega
  have n3_6 : b3 ≠ b6 := by omega
  have n4_3 : b4 ≠ b3 := by omega
  have n4_5 : b4 ≠ b5 := by omega
  have n4_6 : b4 ≠ b6 := by omega
  have n5_3 : b5 ≠ b3 := by omega
  have n5_4 : b5 ≠ b4 := by omega
  have n5_6 : b5 ≠ b6 := by omega
  have n6_3 : b6 ≠ b3 := by omega
  have n6_4 : b6 ≠ b4 := by omega
  have n6_5 : b6 ≠ b5 := by omega
  rw [← h6, ← h5, ← h4, ← h3]
  rw [← h6] at x6'
  rw [← h5] at x5'
  rw [← h4] at x4'
  rw [← h3] at x3'
  have H3 := am x3'
  have H4 := am x4'
  have H5 := am x5'
  have H6 := am x6'
  have HB := am hB
  clear x3' x4' x5' x6' hB h3 h4 h5 h6
  have y40 := b_v H4 0 (.int .i64 f0) rfl
  have y41 := b_v H4 1 (.int .i64 f1) rfl
  have y42 := b_v H4 2 (.int .i64 f2) rfl
  have y50 := b_v H5 0 (.int .i64 c0) rfl
  have y51 := b_v H5 1 (.int .i64 c1) rfl
  have y52 := b_v H5 2 (.int .i64 c2) rfl
  go_step3
  go_wp2_with fail
  refine (may_any w1 f0 f1 f2 c0 c1 c2).mono ?_
  rintro e w2 ⟨rfl, hb⟩
  replace H3 := b_b H3 hb
  replace H4 := b_b H4 hb
  replace H5 := b_b H5 hb
  replace H6 := b_b H6 hb
  replace HB := b_s HB hb
  clear hb
  clear y40 y41 y42
  clear y50 y51 y52
  rw [HM.out]
  have y60 := b_v H6 0 (.int .i64 0) rfl
  have f60 := b_z H6 0
  have y61 := b_v H6 1 (.int .i64 0) rfl
  have f61 := b_z H6 1
  have y62 := b_v H6 2 (.int .i64 0) rfl
  have f62 := b_z H6 2
  have y63 := b_v H6 3 (.int .i64 0) rfl
  have f63 := b_z H6 3
  have y64 := b_v H6 4 (.int .i64 0) rfl
  have f64 := b_z H6 4
  have y65 := b_v H6 5 (.int .i64 0) rfl
  have f65 := b_z H6 5
  go_wp2_with fail
  rw [Exit.noGoto_ret]
  obtain ⟨q, qb⟩ := six_set rfl H6.out g6 HB.out (.int .i64 0) (.int .i64 0) (.int .i64 0) (.int .i64 0) (.int .i64 0) (.int .i64 0)
  exact bodyPost_ret (results_ct rfl _ _ b6 46 _ (0, 0) _ rfl q Tryz.underlying46 rfl (by kernel_rfl)) rfl ⟨rfl, qb⟩
 | true =>
  obtain ⟨e0, hx0⟩ : ∃ e, (if m0 < f0 then f0 else m0) = e := ⟨_, rfl⟩
  obtain ⟨d0, hy0⟩ : ∃ d, (if c0 < e0 then c0 else e0) = d := ⟨_, rfl⟩
  obtain ⟨e1, hx1⟩ : ∃ e, (if m3 < f1 then f1 else m3) = e := ⟨_, rfl⟩
  obtain ⟨d1, hy1⟩ : ∃ d, (if c1 < e1 then c1 else e1) = d := ⟨_, rfl⟩
  obtain ⟨e2, hx2⟩ : ∃ e, (if m5 < f2 then f2 else m5) = e := ⟨_, rfl⟩
  obtain ⟨d2, hy2⟩ : ∃ d, (if c2 < e2 then c2 else e2) = d := ⟨_, rfl⟩
  obtain ⟨Q, hq0, hq⟩ := puts_ex m0 m1 m2 m3 m4 m5 (r3 d0 d1 d2) (r3 f0 f1 f2) (fun k => if k = 0 then d0 else if k = 1 then 0 else if k = 2 then 0 else if k = 3 then d1 else if k = 4 then 0 else d2)
  have HQ0 := am hq0
  have HQ := am hq
  have HM := am hm
  have hmain := main_tells m0 m1 m2 m3 m4 m5
  have HMain := am hmain
  clear hm hmain hq hq0
  refine ⟨Q 3 0, Q 3 1, Q 3 2, Q 3 3, Q 3 4, Q 3 5, 0, fun w hG => ?_⟩
  unfold vec sym at *
  have HG := am hG
  clear hG
  go_enter Tryz.func101, Tryz.ntmps101
  go_upto_region 1 with fail
  obtain ⟨x3', x4', x5', x6', hB⟩ := blocks4 w #[m0, m1, m2, m3, m4, m5] #[f0, f1, f2] #[c0, c1, c2] #[(), (), (), (), (), ()] 46 26 26 46
  generalize (((w.alloc (.cells #[m0, m1, m2, m3, m4, m5] 46)).alloc (.cells #[f0, f1, f2] 26)).alloc (.cells #[c0, c1, c2] 26)).alloc (.cells #[(), (), (), (), (), ()] 46) = w1 at x3' x4' x5' x6' hB ⊢
  obtain ⟨b3, h3⟩ := e_x (w.heap.size)
  obtain ⟨b4, h4⟩ := e_x (w.heap.size + 1)
  obtain ⟨b5, h5⟩ := e_x (w.heap.size + 1 + 1)
  obtain ⟨b6, h6⟩ := e_x (w.heap.size + 1 + 1 + 1)
  have g3 : w.heap.size ≤ b3 := by omega
  have g4 : w.heap.size ≤ b4 := by omega
  have g5 : w.heap.size ≤ b5 := by omega
  have g6 : w.heap.size ≤ b6 := by omega
  have n3_4 : b3 ≠ b4 := by omega
  have n3_5 : b3 ≠ b5 := by omega
  have n3_6 : b3 ≠ b6 := by omega
  have n4_3 : b4 ≠ b3 := by omega
  have n4_5 : b4 ≠ b5 := by omega
  have n4_6 : b4 ≠ b6 := by omega
  have n5_3 : b5 ≠ b3 := by omega
  have n5_4 : b5 ≠ b4 := by omega
  have n5_6 : b5 ≠ b6 := by omega
  have n6_3 : b6 ≠ b3 := by omega
  have n6_4 : b6 ≠ b4 := by omega
  have n6_5 : b6 ≠ b5 := by omega
  rw [← h6, ← h5, ← h4, ← h3]
  rw [← h6] at x6'
  rw [← h5] at x5'
  rw [← h4] at x4'
  rw [← h3] at x3'
  have H3 := am x3'
  have H4 := am x4'
  have H5 := am x5'
  have H6 := am x6'
  have HB := am hB
  clear x3' x4' x5' x6' hB h3 h4 h5 h6
  have y40 := b_v H4 0 (.int .i64 f0) rfl
  have y41 := b_v H4 1 (.int .i64 f1) rfl
  have y42 := b_v H4 2 (.int .i64 f2) rfl
  have y50 := b_v H5 0 (.int .i64 c0) rfl
  have y51 := b_v H5 1 (.int .i64 c1) rfl
  have y52 := b_v H5 2 (.int .i64 c2) rfl
  go_step3
  go_wp2_with fail
  refine (may_any w1 f0 f1 f2 c0 c1 c2).mono ?_
  rintro e w2 ⟨rfl, hb⟩
  replace H3 := b_b H3 hb
  replace H4 := b_b H4 hb
  replace H5 := b_b H5 hb
  replace H6 := b_b H6 hb
  replace HB := b_s HB hb
  clear hb
  clear y40 y41 y42
  clear y50 y51 y52
  rw [HM.out]
  have y30 := b_v H3 0 (.int .i64 m0) rfl
  have y31 := b_v H3 1 (.int .i64 m1) rfl
  have y32 := b_v H3 2 (.int .i64 m2) rfl
  have y33 := b_v H3 3 (.int .i64 m3) rfl
  have y34 := b_v H3 4 (.int .i64 m4) rfl
  have y35 := b_v H3 5 (.int .i64 m5) rfl
  go_wp2_with fail
  refine (HMain.out w2 (HG.out.below HB.out)).mono ?_
  rintro e w3 ⟨rfl, hb⟩
  replace H3 := b_b H3 hb
  replace H4 := b_b H4 hb
  replace H5 := b_b H5 hb
  replace H6 := b_b H6 hb
  replace HB := b_s HB hb
  clear hb
  clear y30 y31 y32 y33 y34 y35
  go_upto_region 4 with fail
  have n3_8 : b3 ≠ w3.heap.size := Nat.ne_of_lt (blk_lt H3.out)
  have n4_8 : b4 ≠ w3.heap.size := Nat.ne_of_lt (blk_lt H4.out)
  have n5_8 : b5 ≠ w3.heap.size := Nat.ne_of_lt (blk_lt H5.out)
  have n6_8 : b6 ≠ w3.heap.size := Nat.ne_of_lt (blk_lt H6.out)
  replace H3 := am (blk_alloc H3.out (.cells #[m0, m3, m5] 26))
  replace H4 := am (blk_alloc H4.out (.cells #[m0, m3, m5] 26))
  replace H5 := am (blk_alloc H5.out (.cells #[m0, m3, m5] 26))
  replace H6 := am (blk_alloc H6.out (.cells #[m0, m3, m5] 26))
  have H8 := am (blk_new w3 (.cells #[m0, m3, m5] 26))
  have g8 : w.heap.size ≤ w3.heap.size := HB.out.size
  replace HB := am (below_alloc HB.out (.cells #[m0, m3, m5] 26))
  generalize w3.alloc (.cells #[m0, m3, m5] 26) = w4 at H3 H4 H5 H6 H8 HB ⊢
  generalize w3.heap.size = b8 at H8 g8 n3_8 n4_8 n5_8 n6_8 ⊢
  go_wp2_with fail
  refine wp_unroll (fun K hK => ?_)
  have HK := am hK
  clear hK
  go_upto_region 7 with fail
  have y8 := b_v H8 0 (.int .i64 m0) rfl
  have y4 := b_v H4 0 (.int .i64 f0) rfl
  have y5 := b_v H5 0 (.int .i64 c0) rfl
  have f8 := b_z H8 0
  go_region
  clear y8 y4 y5 f8
  have q := blk_set H8.out 0 (.int .i64 d0)
  have qb := HB.out.setCell (p := ⟨b8, 0, none⟩) g8 (.int .i64 d0)
  have qo0 := blk_far H3.out (p := ⟨b8, 0, none⟩) n3_8 (.int .i64 d0)
  have qo1 := blk_far H4.out (p := ⟨b8, 0, none⟩) n4_8 (.int .i64 d0)
  have qo2 := blk_far H5.out (p := ⟨b8, 0, none⟩) n5_8 (.int .i64 d0)
  have qo3 := blk_far H6.out (p := ⟨b8, 0, none⟩) n6_8 (.int .i64 d0)
  replace q := blk_drew q
  replace qb := below_drew qb
  replace qo0 := blk_drew qo0
  replace qo1 := blk_drew qo1
  replace qo2 := blk_drew qo2
  replace qo3 := blk_drew qo3
  clear H8 HB H3 H4 H5 H6
  generalize (w4.setCell ⟨b8, 0, none⟩ (.int .i64 d0)).drew = v0 at q qb qo0 qo1 qo2 qo3 ⊢
  have HB := am qb
  have H3 := am qo0
  have H4 := am qo1
  have H5 := am qo2
  have H6 := am qo3
  clear qb qo0 qo1 qo2 qo3
  have H8 := am (show v0.heap[b8]? = some (.cells #[d0, m3, m5] 26 (0, 0)) from q)
  clear q
  go_wp2_with fail
  refine HK.out _ _ ?_; go_wp2_with fail
  have y8 := b_v H8 1 (.int .i64 m3) rfl
  have y4 := b_v H4 1 (.int .i64 f1) rfl
  have y5 := b_v H5 1 (.int .i64 c1) rfl
  have f8 := b_z H8 1
  go_region
  clear y8 y4 y5 f8
  have q := blk_set H8.out 1 (.int .i64 d1)
  have qb := HB.out.setCell (p := ⟨b8, 1, none⟩) g8 (.int .i64 d1)
  have qo0 := blk_far H3.out (p := ⟨b8, 1, none⟩) n3_8 (.int .i64 d1)
  have qo1 := blk_far H4.out (p := ⟨b8, 1, none⟩) n4_8 (.int .i64 d1)
  have qo2 := blk_far H5.out (p := ⟨b8, 1, none⟩) n5_8 (.int .i64 d1)
  have qo3 := blk_far H6.out (p := ⟨b8, 1, none⟩) n6_8 (.int .i64 d1)
  replace q := blk_drew q
  replace qb := below_drew qb
  replace qo0 := blk_drew qo0
  replace qo1 := blk_drew qo1
  replace qo2 := blk_drew qo2
  replace qo3 := blk_drew qo3
  clear H8 HB H3 H4 H5 H6
  generalize (v0.setCell ⟨b8, 1, none⟩ (.int .i64 d1)).drew = v1 at q qb qo0 qo1 qo2 qo3 ⊢
  have HB := am qb
  have H3 := am qo0
  have H4 := am qo1
  have H5 := am qo2
  have H6 := am qo3
  clear qb qo0 qo1 qo2 qo3
  have H8 := am (show v1.heap[b8]? = some (.cells #[d0, d1, m5] 26 (0, 0)) from q)
  clear q
  go_wp2_with fail
  refine HK.out _ _ ?_; go_wp2_with fail
  have y8 := b_v H8 2 (.int .i64 m5) rfl
  have y4 := b_v H4 2 (.int .i64 f2) rfl
  have y5 := b_v H5 2 (.int .i64 c2) rfl
  have f8 := b_z H8 2
  go_region
  clear y8 y4 y5 f8
  have q := blk_set H8.out 2 (.int .i64 d2)
  have qb := HB.out.setCell (p := ⟨b8, 2, none⟩) g8 (.int .i64 d2)
  have qo0 := blk_far H3.out (p := ⟨b8, 2, none⟩) n3_8 (.int .i64 d2)
  have qo1 := blk_far H4.out (p := ⟨b8, 2, none⟩) n4_8 (.int .i64 d2)
  have qo2 := blk_far H5.out (p := ⟨b8, 2, none⟩) n5_8 (.int .i64 d2)
  have qo3 := blk_far H6.out (p := ⟨b8, 2, none⟩) n6_8 (.int .i64 d2)
  replace q := blk_drew q
  replace qb := below_drew qb
  replace qo0 := blk_drew qo0
  replace qo1 := blk_drew qo1
  replace qo2 := blk_drew qo2
  replace qo3 := blk_drew qo3
  clear H8 HB H3 H4 H5 H6
  generalize (v1.setCell ⟨b8, 2, none⟩ (.int .i64 d2)).drew = v2 at q qb qo0 qo1 qo2 qo3 ⊢
  have HB := am qb
  have H3 := am qo0
  have H4 := am qo1
  have H5 := am qo2
  have H6 := am qo3
  clear qb qo0 qo1 qo2 qo3
  have H8 := am (show v2.heap[b8]? = some (.cells #[d0, d1, d2] 26 (0, 0)) from q)
  clear q
  have y80 := b_v H8 0 (.int .i64 d0) rfl
  have y81 := b_v H8 1 (.int .i64 d1) rfl
  have y82 := b_v H8 2 (.int .i64 d2) rfl
  go_wp2_with fail
  refine HK.out _ _ ?_; go_wp2_with fail
  refine (diag_any v2 d0 d1 d2).mono ?_
  rintro e w5 ⟨rfl, hb⟩
  replace H3 := b_b H3 hb
  replace H4 := b_b H4 hb
  replace H5 := b_b H5 hb
  replace H6 := b_b H6 hb
  replace H8 := b_b H8 hb
  replace HB := b_s HB hb
  clear hb
  clear y80 y81 y82
  go_upto_region 10 with fail
  have n3_10 : b3 ≠ w5.heap.size := Nat.ne_of_lt (blk_lt H3.out)
  have n4_10 : b4 ≠ w5.heap.size := Nat.ne_of_lt (blk_lt H4.out)
  have n5_10 : b5 ≠ w5.heap.size := Nat.ne_of_lt (blk_lt H5.out)
  have n6_10 : b6 ≠ w5.heap.size := Nat.ne_of_lt (blk_lt H6.out)
  have n8_10 : b8 ≠ w5.heap.size := Nat.ne_of_lt (blk_lt H8.out)
  clear n3_8 n4_8 n5_8 n6_8
  replace H3 := am (blk_alloc H3.out (.cells #[d0, (), (), d1, (), d2] 46))
  replace H4 := am (blk_alloc H4.out (.cells #[d0, (), (), d1, (), d2] 46))
  replace H5 := am (blk_alloc H5.out (.cells #[d0, (), (), d1, (), d2] 46))
  replace H6 := am (blk_alloc H6.out (.cells #[d0, (), (), d1, (), d2] 46))
  replace H8 := am (blk_alloc H8.out (.cells #[d0, (), (), d1, (), d2] 46))
  have H10 := am (blk_new w5 (.cells #[d0, (), (), d1, (), d2] 46))
  have g10 : w.heap.size ≤ w5.heap.size := HB.out.size
  replace HB := am (below_alloc HB.out (.cells #[d0, (), (), d1, (), d2] 46))
  generalize w5.alloc (.cells #[d0, (), (), d1, (), d2] 46) = w6 at H3 H4 H5 H6 H8 H10 HB ⊢
  generalize w5.heap.size = b10 at H10 g10 n3_10 n4_10 n5_10 n6_10 n8_10 ⊢
  go_step3
  go_wp2_with fail
  clear H5
  refine wp_count 3 (tmO w b3 b4 b6 b8 b10 m0 m1 m2 m3 m4 m5 f0 f1 f2 d0 d1 d2 Q) ?last ?round ?start
  case last =>
   rintro a w' ⟨iz, c, hsz, hd, e3, e4, e6, e8, e10, e41, hc, _⟩
   omega
  case start =>
   unfold tmO
   exact ⟨0, 0, rfl, rfl, rfl, rfl, rfl, rfl, rfl, rfl, .inl ⟨rfl, rfl, rfl⟩, H3, H4, H6, H8, ⟨by rw [show (0 : Int).toNat = 0 from rfl, HQ0.out]; exact H10.out⟩, HB⟩
  case round =>
   clear H3 H4 H6 H8 H10 HB
   rintro n hn K hK a w' ⟨iz, c0, hsz, hd, e3, e4, e6, e8, e10, e41, hc, H3, H4, H6, H8, H10, HB⟩
   obtain ⟨T, ds⟩ := a
   obtain rfl : ds = [] := hd
   obtain ⟨S, rfl⟩ := lit84_6 T _ _ _ _ _ _ hsz e3 e4 e6 e8 e10 e41
   clear hsz e3 e4 e6 e8 e10 e41
   have HK := am hK
   have HC := am hc
   have i0 : 0 ≤ iz := by omega
   have i3' : iz ≤ 3 := by omega
   clear hK hc hn
   by_cases i3 : iz < 3
   ·
    clear i3'
    go_wp2_with fail
    refine wp_count 3 (tmI w b3 b4 b6 b8 b10 m0 m1 m2 m3 m4 m5 f0 f1 f2 d0 d1 d2 Q c0 iz) ?last2 ?round2 ?start2
    case last2 =>
     rintro a w' ⟨jz, c, hsz, hd, e3, e4, e6, e8, e10, e11, e41, e44, hc, _⟩
     omega
    case start2 =>
     unfold tmI
     exact ⟨0, c0, rfl, rfl, rfl, rfl, rfl, rfl, rfl, rfl, rfl, rfl, ⟨by simp, by simp, by omega⟩, H3, H4, H6, H8, H10, HB⟩
    case round2 =>
     clear H3 H4 H6 H8 H10 HB
     rintro k hk K2 hK2 a wj ⟨jz, c, hsz, hd, e3, e4, e6, e8, e10, e11, e41, e44, hj, H3, H4, H6, H8, H10, HB⟩
     obtain ⟨T, ds⟩ := a
     obtain rfl : ds = [] := hd
     obtain ⟨S, rfl⟩ := lit84_8 T _ _ _ _ _ _ _ _ hsz e3 e4 e6 e8 e10 e11 e41 e44
     clear hsz e3 e4 e6 e8 e10 e11 e41 e44
     have HK2 := am hK2
     have HE := am (fun h : jz ≠ iz => show Turn iz jz c by have := HC.out; unfold Turn; omega)
     have j0 : 0 ≤ jz := by omega
     have j3 : jz < 3 := by omega
     have c1 : 0 ≤ c := by have := HC.out; omega
     have HJ := am hj
     clear hK2 hj hk
     by_cases he : jz = iz
     ·
      have HE2 := am he
      have q1 : (jz == iz) = true := by simp [he]
      have q2 : decide (jz = iz) = true := decide_eq_true he
      clear he
      go_wp2_with fail
      refine HK.out _ _ ?_
      unfold tmO
      exact ⟨iz + 1, c, rfl, rfl, rfl, rfl, rfl, rfl, rfl, rfl, by have := HC.out; have := HJ.out; have := HE2.out; omega, H3, H4, H6, H8, H10, HB⟩
     as_aux_lemma =>
      have HQs := HQ.out iz jz c (HE.out he)
      obtain ⟨z, t, u, h1, h2, h3, h4⟩ := HQs
      have HAt := am h1
      have HRt := am h2
      have HCl := am h3
      have HPut := am h4
      clear h1 h2 h3 h4
      unfold sym Ch.two at HAt
      unfold sxA at HPut
      have HN1 := am he
      have q1 : (jz == iz) = false := by simp [he]
      have q2 : decide (jz = iz) = false := decide_eq_false he
      have y30 := b_v H3 0 (.int .i64 m0) rfl
      have y31 := b_v H3 1 (.int .i64 m1) rfl
      have y32 := b_v H3 2 (.int .i64 m2) rfl
      have y33 := b_v H3 3 (.int .i64 m3) rfl
      have y34 := b_v H3 4 (.int .i64 m4) rfl
      have y35 := b_v H3 5 (.int .i64 m5) rfl
      go_wp2_with fail
      refine (HAt.out wj (HG.out.below HB.out)).mono ?_
      rintro e a_ ⟨rfl, hb⟩
      replace H3 := b_b H3 hb
      replace H4 := b_b H4 hb
      replace H6 := b_b H6 hb
      replace H8 := b_b H8 hb
      replace H10 := b_b H10 hb
      replace HB := b_s HB hb
      clear hb
      clear y30 y31 y32 y33 y34 y35
      go_upto_region 18 with fail
      as_aux_lemma =>
       refine start_ (n := 25) (S := fun w' => w'.heap[b8]? = some (.cells #[d0, d1, d2] 26 (0, 0)) ∧ w'.heap[b4]? = some (.cells #[f0, f1, f2] 26 (0, 0)) ∧ w'.heap[b10]? = some (.cells #[.int .i64 (Q c.toNat 0), .int .i64 (Q c.toNat 1), .int .i64 (Q c.toNat 2), .int .i64 (Q c.toNat 3), .int .i64 (Q c.toNat 4), .int .i64 (Q c.toNat 5)] 46 (0, 0))) (ds := [24]) (flg 25 0) (by kernel_rfl) rfl rfl ⟨H8.out, H4.out, H10.out⟩ (fun hHeld => ?_)
       replace H3 := b_d H3
       replace H4 := b_d H4
       replace H6 := b_d H6
       replace H8 := b_d H8
       replace H10 := b_d H10
       replace HB := am (below_drew HB.out)
       generalize a_.drew = b_ at H3 H4 H6 H8 H10 HB hHeld ⊢
       refine take1_ (i := 0) (N := (some 58)) (v := ?_) (a' := ?_) (flg 25 1) rfl rfl (by kernel_rfl) (fun _ _ _ h => h) (Or.inl ⟨by rfl, ?_⟩) hHeld ?_ ?_
       rotate_left
       ·
        rintro w' ⟨s0, s1, s2⟩
        have x0 := bcv s2 0 (.int .i64 (Q c.toNat 0)) rfl
        have x1 := bcv s2 1 (.int .i64 (Q c.toNat 1)) rfl
        have x2 := bcv s2 2 (.int .i64 (Q c.toNat 2)) rfl
        have x3 := bcv s2 3 (.int .i64 (Q c.toNat 3)) rfl
        have x4 := bcv s2 4 (.int .i64 (Q c.toNat 4)) rfl
        have x5 := bcv s2 5 (.int .i64 (Q c.toNat 5)) rfl
        go_simp
        with_reducible rfl
       rotate_left
       ·
        simp only [pw]
        rfl
       refine p_u 1 59 25 3 ?_
       refine p_u 2 60 25 7 ?_
       refine p_u 3 61 25 15 ?_
       refine p_u 4 62 25 31 ?_
       refine p_u 5 63 25 63 ?_
       refine take1_ (i := 6) (N := (some 64)) (v := ?_) (a' := ?_) (flg 25 127) rfl rfl (by kernel_rfl) (fun _ _ _ h => h) (Or.inl ⟨by rfl, ?_⟩) hHeld ?_ ?_
       rotate_left
       ·
        rintro w' ⟨s0, s1, s2⟩
        have x := r3_get i0 i3 s0
        go_simp
        with_reducible rfl
       rotate_left
       ·
        simp only [pw]
        rfl
       refine p_u 7 65 25 255 ?_
       refine p_u 8 66 25 511 ?_
       refine take1_ (i := 9) (N := (some 67)) (v := ?_) (a' := ?_) (flg 25 1023) rfl rfl (by kernel_rfl) (fun _ _ _ h => h) (Or.inl ⟨by rfl, ?_⟩) hHeld ?_ ?_
       rotate_left
       ·
        rintro w' ⟨s0, s1, s2⟩
        have x := r3_get i0 i3 s1
        go_simp
        with_reducible rfl
       rotate_left
       ·
        simp only [pw]
        rfl
       refine p_u 10 68 25 2047 ?_
       refine p_u 11 69 25 4095 ?_
       refine p_u 12 70 25 8191 ?_
       refine take1_ (i := 13) (N := (some 71)) (v := ?_) (a' := ?_) (flg 25 16383) rfl rfl (by kernel_rfl) (fun _ _ _ h => h) (Or.inl ⟨by rfl, ?_⟩) hHeld ?_ ?_
       rotate_left
       ·
        rintro w' ⟨s0, s1, s2⟩
        have x := r3_get j0 j3 s0
        go_simp
        with_reducible rfl
       rotate_left
       ·
        simp only [pw]
        rfl
       refine p_u 14 72 25 32767 ?_
       refine p_u 15 73 25 65535 ?_
       refine take1_ (i := 16) (N := (some 74)) (v := ?_) (a' := ?_) (flg 25 131071) rfl rfl (by kernel_rfl) (fun _ _ _ h => h) (Or.inl ⟨by rfl, ?_⟩) hHeld ?_ ?_
       rotate_left
       ·
        rintro w' ⟨s0, s1, s2⟩
        have x := r3_get j0 j3 s1
        go_simp
        with_reducible rfl
       rotate_left
       ·
        simp only [pw]
        rfl
       refine p_u 17 75 25 262143 ?_
       refine o_n 18 76 25 524287 fun K hK => ?_
       refine g_s Tryz.func139 #[.int .i64 (wrap64 (r3 d0 d1 d2 iz.toNat - r3 f0 f1 f2 iz.toNat)), .int .i64 (wrap64 (r3 d0 d1 d2 jz.toNat - r3 f0 f1 f2 jz.toNat))] ?_
       refine (HRt.out b_ (HG.out.below HB.out)).mono ?_
       rintro e e_ ⟨rfl, hb⟩
       replace H3 := b_b H3 hb
       replace H4 := b_b H4 hb
       replace H6 := b_b H6 hb
       replace H8 := b_b H8 hb
       replace H10 := b_b H10 hb
       replace HB := b_s HB hb
       clear hb hHeld
       refine ⟨_, rfl, ?_⟩
       refine hK.out _ _ ⟨H8.out, H4.out, H10.out⟩ (fun hHeld => ?_)
       clear hK K
       refine n_o 76 ?_
       refine o_n 19 77 25 1048575 fun K hK => ?_
       refine g_s Tryz.func138 #[z, t] ?_
       refine (fix_Clamp.calls z t u e_ HCl.out).mono ?_
       rintro e h_ ⟨rfl, hb⟩
       replace H3 := b_b H3 hb
       replace H4 := b_b H4 hb
       replace H6 := b_b H6 hb
       replace H8 := b_b H8 hb
       replace H10 := b_b H10 hb
       replace HB := b_s HB hb
       clear hb hHeld
       refine ⟨_, rfl, ?_⟩
       refine hK.out _ _ ⟨H8.out, H4.out, H10.out⟩ (fun hHeld => ?_)
       clear hK K
       refine n_o 77 ?_
       refine o_n 20 78 25 2097151 fun K hK => ?_
       refine g_s Tryz.func121 #[.agg #[.int .i64 (Q c.toNat 0), .int .i64 (Q c.toNat 1), .int .i64 (Q c.toNat 2), .int .i64 (Q c.toNat 3), .int .i64 (Q c.toNat 4), .int .i64 (Q c.toNat 5)], .int .i64 iz, .int .i64 jz, .int .i64 u] ?_
       refine (HPut.out h_ (HG.out.below HB.out)).mono ?_
       rintro e i_ ⟨rfl, hb⟩
       replace H3 := b_b H3 hb
       replace H4 := b_b H4 hb
       replace H6 := b_b H6 hb
       replace H8 := b_b H8 hb
       replace H10 := b_b H10 hb
       replace HB := b_s HB hb
       clear hb hHeld
       refine ⟨_, rfl, ?_⟩
       refine hK.out _ _ ⟨H8.out, H4.out, H10.out⟩ (fun hHeld => ?_)
       clear hK K
       refine n_o 78 ?_
       refine p_u 21 57 25 4194303 ?_
       refine p_u 22 79 25 8388607 ?_
       refine p_u 23 80 25 16777215 ?_
       have y100 := b_v H10 0 (.int .i64 (Q c.toNat 0)) rfl
       have f100 := b_z H10 0
       have y101 := b_v H10 1 (.int .i64 (Q c.toNat 1)) rfl
       have f101 := b_z H10 1
       have y102 := b_v H10 2 (.int .i64 (Q c.toNat 2)) rfl
       have f102 := b_z H10 2
       have y103 := b_v H10 3 (.int .i64 (Q c.toNat 3)) rfl
       have f103 := b_z H10 3
       have y104 := b_v H10 4 (.int .i64 (Q c.toNat 4)) rfl
       have f104 := b_z H10 4
       have y105 := b_v H10 5 (.int .i64 (Q c.toNat 5)) rfl
       have f105 := b_z H10 5
       refine last_ (i := 24) (N := none) (flg 25 33554431) rfl rfl (by kernel_rfl) (by decide) (fun K hK => ?_)
       refine s_k ((((((i_.setCell ⟨b10, 0, none⟩ (.int .i64 (Q (c.toNat + 1) 0))).setCell ⟨b10, 1, none⟩ (.int .i64 (Q (c.toNat + 1) 1))).setCell ⟨b10, 2, none⟩ (.int .i64 (Q (c.toNat + 1) 2))).setCell ⟨b10, 3, none⟩ (.int .i64 (Q (c.toNat + 1) 3))).setCell ⟨b10, 4, none⟩ (.int .i64 (Q (c.toNat + 1) 4))).setCell ⟨b10, 5, none⟩ (.int .i64 (Q (c.toNat + 1) 5))) ?_
       obtain ⟨q, qb⟩ := six_set rfl H10.out g10 HB.out (.int .i64 (Q (c.toNat + 1) 0)) (.int .i64 (Q (c.toNat + 1) 1)) (.int .i64 (Q (c.toNat + 1) 2)) (.int .i64 (Q (c.toNat + 1) 3)) (.int .i64 (Q (c.toNat + 1) 4)) (.int .i64 (Q (c.toNat + 1) 5))
       have qo0 := (blk_far (blk_far (blk_far (blk_far (blk_far (blk_far H3.out (p := ⟨b10, 0, none⟩) n3_10 (.int .i64 (Q (c.toNat + 1) 0))) (p := ⟨b10, 1, none⟩) n3_10 (.int .i64 (Q (c.toNat + 1) 1))) (p := ⟨b10, 2, none⟩) n3_10 (.int .i64 (Q (c.toNat + 1) 2))) (p := ⟨b10, 3, none⟩) n3_10 (.int .i64 (Q (c.toNat + 1) 3))) (p := ⟨b10, 4, none⟩) n3_10 (.int .i64 (Q (c.toNat + 1) 4))) (p := ⟨b10, 5, none⟩) n3_10 (.int .i64 (Q (c.toNat + 1) 5)))
       have qo1 := (blk_far (blk_far (blk_far (blk_far (blk_far (blk_far H4.out (p := ⟨b10, 0, none⟩) n4_10 (.int .i64 (Q (c.toNat + 1) 0))) (p := ⟨b10, 1, none⟩) n4_10 (.int .i64 (Q (c.toNat + 1) 1))) (p := ⟨b10, 2, none⟩) n4_10 (.int .i64 (Q (c.toNat + 1) 2))) (p := ⟨b10, 3, none⟩) n4_10 (.int .i64 (Q (c.toNat + 1) 3))) (p := ⟨b10, 4, none⟩) n4_10 (.int .i64 (Q (c.toNat + 1) 4))) (p := ⟨b10, 5, none⟩) n4_10 (.int .i64 (Q (c.toNat + 1) 5)))
       have qo2 := (blk_far (blk_far (blk_far (blk_far (blk_far (blk_far H6.out (p := ⟨b10, 0, none⟩) n6_10 (.int .i64 (Q (c.toNat + 1) 0))) (p := ⟨b10, 1, none⟩) n6_10 (.int .i64 (Q (c.toNat + 1) 1))) (p := ⟨b10, 2, none⟩) n6_10 (.int .i64 (Q (c.toNat + 1) 2))) (p := ⟨b10, 3, none⟩) n6_10 (.int .i64 (Q (c.toNat + 1) 3))) (p := ⟨b10, 4, none⟩) n6_10 (.int .i64 (Q (c.toNat + 1) 4))) (p := ⟨b10, 5, none⟩) n6_10 (.int .i64 (Q (c.toNat + 1) 5)))
       have qo3 := (blk_far (blk_far (blk_far (blk_far (blk_far (blk_far H8.out (p := ⟨b10, 0, none⟩) n8_10 (.int .i64 (Q (c.toNat + 1) 0))) (p := ⟨b10, 1, none⟩) n8_10 (.int .i64 (Q (c.toNat + 1) 1))) (p := ⟨b10, 2, none⟩) n8_10 (.int .i64 (Q (c.toNat + 1) 2))) (p := ⟨b10, 3, none⟩) n8_10 (.int .i64 (Q (c.toNat + 1) 3))) (p := ⟨b10, 4, none⟩) n8_10 (.int .i64 (Q (c.toNat + 1) 4))) (p := ⟨b10, 5, none⟩) n8_10 (.int .i64 (Q (c.toNat + 1) 5)))
       clear hHeld y100 f100 y101 f101 y102 f102 y103 f103 y104 f104 y105 f105 H10 HB H3 H4 H6 H8
       generalize (((((i_.setCell ⟨b10, 0, none⟩ (.int .i64 (Q (c.toNat + 1) 0))).setCell ⟨b10, 1, none⟩ (.int .i64 (Q (c.toNat + 1) 1))).setCell ⟨b10, 2, none⟩ (.int .i64 (Q (c.toNat + 1) 2))).setCell ⟨b10, 3, none⟩ (.int .i64 (Q (c.toNat + 1) 3))).setCell ⟨b10, 4, none⟩ (.int .i64 (Q (c.toNat + 1) 4))).setCell ⟨b10, 5, none⟩ (.int .i64 (Q (c.toNat + 1) 5)) = x_ at q qb qo0 qo1 qo2 qo3 ⊢
       have H10 := am q
       have HB := am qb
       have H3 := am qo0
       have H4 := am qo1
       have H6 := am qo2
       have H8 := am qo3
       clear q qb qo0 qo1 qo2 qo3
       refine hK.out _ _ ?_
       clear hK K
       refine d_n ?_
       go_wp2_with fail
       refine HK2.out _ _ ?_
       unfold tmI
       exact ⟨jz + 1, c + 1, rfl, rfl, rfl, rfl, rfl, rfl, rfl, rfl, rfl, rfl, ⟨by have := HJ.out; omega, by have := HJ.out; omega, by have := HJ.out; have := HN1.out; omega⟩, H3, H4, H6, H8, ⟨by rw [show (c + 1).toNat = c.toNat + 1 by omega]; exact H10.out⟩, HB⟩
   have hi3 : iz = 3 := by omega
   have hc6 : c0 = 3 := by have := HC.out; omega
   subst hi3 hc6
   as_aux_lemma =>
    have y100 := b_v H10 0 (.int .i64 (Q (3 : Int).toNat 0)) rfl
    have y101 := b_v H10 1 (.int .i64 (Q (3 : Int).toNat 1)) rfl
    have y102 := b_v H10 2 (.int .i64 (Q (3 : Int).toNat 2)) rfl
    have y103 := b_v H10 3 (.int .i64 (Q (3 : Int).toNat 3)) rfl
    have y104 := b_v H10 4 (.int .i64 (Q (3 : Int).toNat 4)) rfl
    have y105 := b_v H10 5 (.int .i64 (Q (3 : Int).toNat 5)) rfl
    have y60 := b_v H6 0 (.int .i64 0) rfl
    have f60 := b_z H6 0
    have y61 := b_v H6 1 (.int .i64 0) rfl
    have f61 := b_z H6 1
    have y62 := b_v H6 2 (.int .i64 0) rfl
    have f62 := b_z H6 2
    have y63 := b_v H6 3 (.int .i64 0) rfl
    have f63 := b_z H6 3
    have y64 := b_v H6 4 (.int .i64 0) rfl
    have f64 := b_z H6 4
    have y65 := b_v H6 5 (.int .i64 0) rfl
    have f65 := b_z H6 5
    go_wp2_with fail
    obtain ⟨q, qb⟩ := six_set rfl H6.out g6 HB.out (.int .i64 (Q 3 0)) (.int .i64 (Q 3 1)) (.int .i64 (Q 3 2)) (.int .i64 (Q 3 3)) (.int .i64 (Q 3 4)) (.int .i64 (Q 3 5))
    exact bodyPost_ret (results_ct rfl _ _ b6 46 _ (0, 0) _ rfl q Tryz.underlying46 rfl (by kernel_rfl)) rfl ⟨rfl, qb⟩
end Go.Proofs.YtpdahkgandaabaaGreatDoor.Ch
