/- A part of the proof of TopAgain, where the package's tables hold what their initialisers lay. -/
import Derived.Test.YtpdahkgandaabaaGreatDoorT01
import Derived.Test.YtpdahkgandaabaaGreatDoorT06
import Derived.Test.YtpdahkgandaabaaGreatDoorT09
import Derived.Test.YtpdahkgandaabaaGreatDoorT11
import Derived.Test.YtpdahkgandaabaaGreatDoorT14
namespace Go.Proofs.YtpdahkgandaabaaGreatDoor.Ch
open Go.RowKit Go.Proofs.YtpdahkgandaabaaGreatDoorW.PrintWords Go.Proofs.YtpdahkgandaabaaGreatDoorW.PrintLast Go.Proofs.YtpdahkgandaabaaGreatDoorW.PrintMore Go.Proofs.YtpdahkgandaabaaGreatDoor.PTopNames Go.Proofs.YtpdahkgandaabaaGreatDoor.Al
set_option linter.unusedVariables false
set_option linter.unusedSimpArgs false
attribute [local go_sem] run_store_func
def DTurn (p0 p1 p2 p3 p4 p5 k0 k1 k2 sp : Int) (q q' : Sx) (e0 e1 e2 i j : Int) : Prop :=
 ∃ t u1 a1 u2 b1 en v1 a2 v2 b2, Tells 113 #[.int .i64 (r3k k0 k1 k2 i.toNat), .int .i64 (r3k p0 p1 p2 j.toNat), .int .i64 (r3k k0 k1 k2 j.toNat), .int .i64 (r3k p0 p1 p2 i.toNat)] (Ch.two t e0) ∧
  Tells 116 #[.int .i64 (r3k k0 k1 k2 i.toNat), .int .i64 (r3k k0 k1 k2 j.toNat)] (Ch.two u1 a1) ∧ Tells 116 #[u1, sp] (Ch.two u2 b1) ∧ stepsE a1 b1 = e1 ∧
  Tells 118 #[sym p0 p1 p2 p3 p4 p5, i, j] (Ch.two en 0) ∧
  Tells 95 #[en, t] (Ch.two v1 a2) ∧ Tells 105 #[v1, .int .i64 (stepsV u2 a1 b1)] (Ch.two v2 b2) ∧ stepsE a2 b2 = e2 ∧
  Tells 121 #[.agg (sxA q), i, j, .int .i64 (stepsV v2 a2 b2)] (.tuple #[.agg (sxA q'), ()])
theorem dturn_ex (p0 p1 p2 p3 p4 p5 k0 k1 k2 sp : Int) (q : Sx) (i j : Int) (hi : i = 0 ∨ i = 1 ∨ i = 2) (hj : j = 0 ∨ j = 1 ∨ j = 2) : ∃ q' e0 e1 e2, DTurn p0 p1 p2 p3 p4 p5 k0 k1 k2 sp q q' e0 e1 e2 i j := by
 obtain ⟨t, e0, h0⟩ := cross_tells (r3k k0 k1 k2 i.toNat) (r3k p0 p1 p2 j.toNat) (r3k k0 k1 k2 j.toNat) (r3k p0 p1 p2 i.toNat)
 obtain ⟨u1, a1, h1⟩ := fmul_tells (r3k k0 k1 k2 i.toNat) (r3k k0 k1 k2 j.toNat)
 obtain ⟨u2, b1, h2⟩ := fmul_tells u1 sp
 obtain ⟨en, h3⟩ := at_tells p0 p1 p2 p3 p4 p5 i j hi hj
 obtain ⟨v1, a2, h4⟩ := sub_tells en t
 obtain ⟨v2, b2, h5⟩ := add_tells v1 (stepsV u2 a1 b1)
 obtain ⟨n0, n1, n2, n3, n4, n5, hp⟩ := put_tells (q 0) (q 1) (q 2) (q 3) (q 4) (q 5) i j (stepsV v2 a2 b2) hi hj
 exact ⟨fun k => if k = 0 then n0 else if k = 1 then n1 else if k = 2 then n2 else if k = 3 then n3 else if k = 4 then n4 else n5, e0, _, _, t, u1, a1, u2, b1, en, v1, a2, v2, b2, h0, h1, h2, rfl, h3, h4, h5, rfl, hp⟩
theorem dturns_ex (p0 p1 p2 p3 p4 p5 k0 k1 k2 sp : Int) (q0 : Sx) : ∃ (Q : Nat → Sx) (E0 E1 E2 : Nat → Int), Q 0 = q0 ∧ ∀ i j c, Ent i j c → DTurn p0 p1 p2 p3 p4 p5 k0 k1 k2 sp (Q c.toNat) (Q (c.toNat + 1)) (E0 c.toNat) (E1 c.toNat) (E2 c.toNat) i j := by
 obtain ⟨q1, a0, b0, c0, h0⟩ := dturn_ex p0 p1 p2 p3 p4 p5 k0 k1 k2 sp q0 0 0 (by decide) (by decide)
 obtain ⟨q2, a1, b1, c1, h1⟩ := dturn_ex p0 p1 p2 p3 p4 p5 k0 k1 k2 sp q1 0 1 (by decide) (by decide)
 obtain ⟨q3, a2, b2, c2, h2⟩ := dturn_ex p0 p1 p2 p3 p4 p5 k0 k1 k2 sp q2 0 2 (by decide) (by decide)
 obtain ⟨q4, a3, b3, c3, h3⟩ := dturn_ex p0 p1 p2 p3 p4 p5 k0 k1 k2 sp q3 1 1 (by decide) (by decide)
 obtain ⟨q5, a4, b4, c4, h4⟩ := dturn_ex p0 p1 p2 p3 p4 p5 k0 k1 k2 sp q4 1 2 (by decide) (by decide)
 obtain ⟨q6, a5, b5, c5, h5⟩ := dturn_ex p0 p1 p2 p3 p4 p5 k0 k1 k2 sp q5 2 2 (by decide) (by decide)
 refine ⟨fun c => if c = 0 then q0 else if c = 1 then q1 else if c = 2 then q2 else if c = 3 then q3 else if c = 4 then q4 else if c = 5 then q5 else q6, fun c => if c = 0 then a0 else if c = 1 then a1 else if c = 2 then a2 else if c = 3 then a3 else if c = 4 then a4 else a5, fun c => if c = 0 then b0 else if c = 1 then b1 else if c = 2 then b2 else if c = 3 then b3 else if c = 4 then b4 else b5, fun c => if c = 0 then c0 else if c = 1 then c1 else if c = 2 then c2 else if c = 3 then c3 else if c = 4 then c4 else c5, rfl, fun i j c h => ?_⟩
 rcases h with ⟨rfl, rfl, rfl⟩ | ⟨rfl, rfl, rfl⟩ | ⟨rfl, rfl, rfl⟩ | ⟨rfl, rfl, rfl⟩ | ⟨rfl, rfl, rfl⟩ | ⟨rfl, rfl, rfl⟩
 ·
  exact h0
 ·
  exact h1
 ·
  exact h2
 ·
  exact h3
 ·
  exact h4
 exact h5
def errc (E0 E1 E2 : Nat → Int) (c : Nat) : Int := if E0 c = 0 then (if E1 c = 0 then E2 c else E1 c) else E0 c
theorem firstn_ex (e : Nat → Int) (n : Nat) : ∃ er, ((∀ c, c < n → e c = 0) → er = 0) ∧ ∀ c, c < n → (∀ q, q < c → e q = 0) → e c ≠ 0 → e c = er := by
 by_cases h : ∃ c, c < n ∧ (∀ q, q < c → e q = 0) ∧ e c ≠ 0
 ·
  obtain ⟨c0, h0, h1, h2⟩ := h
  refine ⟨e c0, fun h => h c0 h0, fun c hc hq hn => ?_⟩
  rcases Nat.lt_trichotomy c c0 with h | h | h
  ·
   exact absurd (h1 c h) hn
  ·
   rw [h]
  exact absurd (hq c0 h) h2
 exact ⟨0, fun _ => rfl, fun c hc hq hn => absurd ⟨c, hc, hq, hn⟩ h⟩
theorem dres_ex (Q6 : Sx) (e : Nat → Int) : ∃ r0 r1 r2 r3 r4 r5 er, ((∀ c, c < 6 → e c = 0) → Q6 0 = r0 ∧ Q6 1 = r1 ∧ Q6 2 = r2 ∧ Q6 3 = r3 ∧ Q6 4 = r4 ∧ Q6 5 = r5 ∧ er = 0) ∧
  ∀ c, c < 6 → (∀ q, q < c → e q = 0) → e c ≠ 0 → r0 = 0 ∧ r1 = 0 ∧ r2 = 0 ∧ r3 = 0 ∧ r4 = 0 ∧ r5 = 0 ∧ e c = er := by
 obtain ⟨er, h0, h1⟩ := firstn_ex e 6
 by_cases h : ∀ c, c < 6 → e c = 0
 ·
  exact ⟨_, _, _, _, _, _, er, fun _ => ⟨rfl, rfl, rfl, rfl, rfl, rfl, h0 h⟩, fun c hc _ hn => absurd (h c hc) hn⟩
 exact ⟨0, 0, 0, 0, 0, 0, er, fun hh => absurd hh h, fun c hc hq hn => ⟨rfl, rfl, rfl, rfl, rfl, rfl, h1 c hc hq hn⟩⟩
theorem r3k_get {W : World} {b : Nat} {x0 x1 x2 : Int} {C : Array Value} {t : TypeId} {i : Int} (h0 : 0 ≤ i) (h1 : i < 3) (h : W.heap[b]? = some (.cells C t (0, 0))) (hC : C[0]? = some (.int .i64 x0) ∧ C[1]? = some (.int .i64 x1) ∧ C[2]? = some (.int .i64 x2)) : W.cell? ⟨b, i.toNat, none⟩ = some (.int .i64 (r3k x0 x1 x2 i.toNat)) := by
 refine (blk_cell h _).trans ?_
 obtain rfl | rfl | rfl : i = 0 ∨ i = 1 ∨ i = 2 := by omega
 ·
  exact hC.1
 ·
  exact hC.2.1
 exact hC.2.2
theorem lit110 (T : Array Value) (h : T.size = 110) : ∃ S : Nat → Value, T = #[S 0, S 1, S 2, S 3, S 4, S 5, S 6, S 7, S 8, S 9, S 10, S 11, S 12, S 13, S 14, S 15, S 16, S 17, S 18, S 19, S 20, S 21, S 22, S 23, S 24, S 25, S 26, S 27, S 28, S 29, S 30, S 31, S 32, S 33, S 34, S 35, S 36, S 37, S 38, S 39, S 40, S 41, S 42, S 43, S 44, S 45, S 46, S 47, S 48, S 49, S 50, S 51, S 52, S 53, S 54, S 55, S 56, S 57, S 58, S 59, S 60, S 61, S 62, S 63, S 64, S 65, S 66, S 67, S 68, S 69, S 70, S 71, S 72, S 73, S 74, S 75, S 76, S 77, S 78, S 79, S 80, S 81, S 82, S 83, S 84, S 85, S 86, S 87, S 88, S 89, S 90, S 91, S 92, S 93, S 94, S 95, S 96, S 97, S 98, S 99, S 100, S 101, S 102, S 103, S 104, S 105, S 106, S 107, S 108, S 109] := by
 refine ⟨fun k => T.getD k undef, ?_⟩
 refine (show T = ((List.range 110).map (fun k => T.getD k undef)).toArray from ?_).trans rfl
 apply Array.ext
 ·
  simp [h]
 intro i h1 h2
 simp [h1]
theorem lit110_6 (T : Array Value) (v3 v4 v5 v6 v10 v38 : Value) (h : T.size = 110) (e3 : T.getD 3 undef = v3) (e4 : T.getD 4 undef = v4) (e5 : T.getD 5 undef = v5) (e6 : T.getD 6 undef = v6) (e10 : T.getD 10 undef = v10) (e38 : T.getD 38 undef = v38) : ∃ S : Nat → Value, T = #[S 0, S 1, S 2, v3, v4, v5, v6, S 7, S 8, S 9, v10, S 11, S 12, S 13, S 14, S 15, S 16, S 17, S 18, S 19, S 20, S 21, S 22, S 23, S 24, S 25, S 26, S 27, S 28, S 29, S 30, S 31, S 32, S 33, S 34, S 35, S 36, S 37, v38, S 39, S 40, S 41, S 42, S 43, S 44, S 45, S 46, S 47, S 48, S 49, S 50, S 51, S 52, S 53, S 54, S 55, S 56, S 57, S 58, S 59, S 60, S 61, S 62, S 63, S 64, S 65, S 66, S 67, S 68, S 69, S 70, S 71, S 72, S 73, S 74, S 75, S 76, S 77, S 78, S 79, S 80, S 81, S 82, S 83, S 84, S 85, S 86, S 87, S 88, S 89, S 90, S 91, S 92, S 93, S 94, S 95, S 96, S 97, S 98, S 99, S 100, S 101, S 102, S 103, S 104, S 105, S 106, S 107, S 108, S 109] := by
 obtain ⟨S, rfl⟩ := lit110 T h
 replace e3 : S 3 = v3 := e3
 replace e4 : S 4 = v4 := e4
 replace e5 : S 5 = v5 := e5
 replace e6 : S 6 = v6 := e6
 replace e10 : S 10 = v10 := e10
 replace e38 : S 38 = v38 := e38
 exact ⟨S, by rw [← e3, ← e4, ← e5, ← e6, ← e10, ← e38]⟩
theorem lit110_8 (T : Array Value) (v3 v4 v5 v6 v10 v11 v12 v38 : Value) (h : T.size = 110) (e3 : T.getD 3 undef = v3) (e4 : T.getD 4 undef = v4) (e5 : T.getD 5 undef = v5) (e6 : T.getD 6 undef = v6) (e10 : T.getD 10 undef = v10) (e11 : T.getD 11 undef = v11) (e12 : T.getD 12 undef = v12) (e38 : T.getD 38 undef = v38) : ∃ S : Nat → Value, T = #[S 0, S 1, S 2, v3, v4, v5, v6, S 7, S 8, S 9, v10, v11, v12, S 13, S 14, S 15, S 16, S 17, S 18, S 19, S 20, S 21, S 22, S 23, S 24, S 25, S 26, S 27, S 28, S 29, S 30, S 31, S 32, S 33, S 34, S 35, S 36, S 37, v38, S 39, S 40, S 41, S 42, S 43, S 44, S 45, S 46, S 47, S 48, S 49, S 50, S 51, S 52, S 53, S 54, S 55, S 56, S 57, S 58, S 59, S 60, S 61, S 62, S 63, S 64, S 65, S 66, S 67, S 68, S 69, S 70, S 71, S 72, S 73, S 74, S 75, S 76, S 77, S 78, S 79, S 80, S 81, S 82, S 83, S 84, S 85, S 86, S 87, S 88, S 89, S 90, S 91, S 92, S 93, S 94, S 95, S 96, S 97, S 98, S 99, S 100, S 101, S 102, S 103, S 104, S 105, S 106, S 107, S 108, S 109] := by
 obtain ⟨S, rfl⟩ := lit110 T h
 replace e3 : S 3 = v3 := e3
 replace e4 : S 4 = v4 := e4
 replace e5 : S 5 = v5 := e5
 replace e6 : S 6 = v6 := e6
 replace e10 : S 10 = v10 := e10
 replace e11 : S 11 = v11 := e11
 replace e12 : S 12 = v12 := e12
 replace e38 : S 38 = v38 := e38
 exact ⟨S, by rw [← e3, ← e4, ← e5, ← e6, ← e10, ← e11, ← e12, ← e38]⟩
def dbO (w : World) (b3 b4 b5 b6 b10 : Nat) (p0 p1 p2 p3 p4 p5 k0 k1 k2 sp : Int) (Q : Nat → Sx) (E0 E1 E2 : Nat → Int) (n : Nat) (a : Act) (w' : World) : Prop := ∃ (iz c : Int), a.tmps.size = 110 ∧ a.defers = [] ∧ a.tmps.getD 3 undef = .pointer (some ⟨b3, 0, none⟩) ∧ a.tmps.getD 4 undef = .pointer (some ⟨b4, 0, none⟩) ∧ a.tmps.getD 5 undef = .pointer (some ⟨b5, 0, none⟩) ∧ a.tmps.getD 6 undef = .pointer (some ⟨b6, 0, none⟩) ∧ a.tmps.getD 10 undef = .pointer (some ⟨b10, 0, none⟩) ∧ a.tmps.getD 38 undef = .int .i64 iz ∧ ((n = 0 ∧ iz = 0 ∧ c = 0) ∨ (n = 1 ∧ iz = 1 ∧ c = 3) ∨ (n = 2 ∧ iz = 2 ∧ c = 5) ∨ (n = 3 ∧ iz = 3 ∧ c = 6)) ∧ Aside0 (∀ q : Nat, q < c.toNat → errc E0 E1 E2 q = 0) ∧ Aside0 (w'.heap[b3]? = some (.cells #[p0, p1, p2, p3, p4, p5] 46 (0, 0))) ∧ Aside0 (w'.heap[b4]? = some (.cells #[k0, k1, k2] 26 (0, 0))) ∧ Aside0 (w'.heap[b5]? = some (.cells #[sp] 2 (0, 0))) ∧ Aside0 (w'.heap[b6]? = some (.cells #[(), (), (), (), (), ()] 46 (0, 0))) ∧ Aside0 (w'.heap[b10]? = some (.cells #[.int .i64 (Q c.toNat 0), .int .i64 (Q c.toNat 1), .int .i64 (Q c.toNat 2), .int .i64 (Q c.toNat 3), .int .i64 (Q c.toNat 4), .int .i64 (Q c.toNat 5)] 46 (0, 0))) ∧ Aside0 (Below w.heap.size w w')
def dbI (w : World) (b3 b4 b5 b6 b10 : Nat) (p0 p1 p2 p3 p4 p5 k0 k1 k2 sp : Int) (Q : Nat → Sx) (E0 E1 E2 : Nat → Int) (c0 iz : Int) (k : Nat) (a : Act) (w' : World) : Prop := ∃ (jz c : Int) (bj : Nat), a.tmps.size = 110 ∧ a.defers = [] ∧ a.tmps.getD 3 undef = .pointer (some ⟨b3, 0, none⟩) ∧ a.tmps.getD 4 undef = .pointer (some ⟨b4, 0, none⟩) ∧ a.tmps.getD 5 undef = .pointer (some ⟨b5, 0, none⟩) ∧ a.tmps.getD 6 undef = .pointer (some ⟨b6, 0, none⟩) ∧ a.tmps.getD 10 undef = .pointer (some ⟨b10, 0, none⟩) ∧ a.tmps.getD 11 undef = .int .i64 iz ∧ a.tmps.getD 12 undef = .pointer (some ⟨bj, 0, none⟩) ∧ a.tmps.getD 38 undef = .int .i64 iz ∧ (jz = iz + k ∧ c = c0 + k ∧ jz ≤ 3) ∧ w.heap.size ≤ bj ∧ Aside0 (w'.heap[bj]? = some (.cells #[jz] 3 (0, 0))) ∧ Aside0 (∀ q : Nat, q < c.toNat → errc E0 E1 E2 q = 0) ∧ Aside0 (w'.heap[b3]? = some (.cells #[p0, p1, p2, p3, p4, p5] 46 (0, 0))) ∧ Aside0 (w'.heap[b4]? = some (.cells #[k0, k1, k2] 26 (0, 0))) ∧ Aside0 (w'.heap[b5]? = some (.cells #[sp] 2 (0, 0))) ∧ Aside0 (w'.heap[b6]? = some (.cells #[(), (), (), (), (), ()] 46 (0, 0))) ∧ Aside0 (w'.heap[b10]? = some (.cells #[.int .i64 (Q c.toNat 0), .int .i64 (Q c.toNat 1), .int .i64 (Q c.toNat 2), .int .i64 (Q c.toNat 3), .int .i64 (Q c.toNat 4), .int .i64 (Q c.toNat 5)] 46 (0, 0))) ∧ Aside0 (Below w.heap.size w w')
set_option maxRecDepth 100000 in
set_option maxHeartbeats 40000000 in
theorem doubt_tells (p0 p1 p2 p3 p4 p5 k0 k1 k2 sp : Int) : ∃ r0 r1 r2 r3 r4 r5 e, Tells 76 #[sym p0 p1 p2 p3 p4 p5, vec k0 k1 k2, sp] (.tuple #[sym r0 r1 r2 r3 r4 r5, .int .i64 e]) := by
 obtain ⟨n0, n1, n2, n3, n4, n5, e0, ha⟩ := sadd_tells p0 p1 p2 p3 p4 p5 0 0 0 0 0 0
 obtain ⟨kv, hv⟩ := vfits_tells k0 k1 k2
 obtain ⟨Q, E0, E1, E2, hq0, hq⟩ := dturns_ex p0 p1 p2 p3 p4 p5 k0 k1 k2 sp (fun k => if k = 0 then p0 else if k = 1 then p1 else if k = 2 then p2 else if k = 3 then p3 else if k = 4 then p4 else p5)
 obtain ⟨r0, r1, r2, r3, r4, r5, er, hyes, hno⟩ := dres_ex (Q 6) (errc E0 E1 E2)
 have HA := am ha
 have HV := am hv
 have HQ0 := am hq0
 have HQ := am hq
 have HYES := am hyes
 have HNO := am hno
 clear ha hv hq0 hq hyes hno
 unfold sym at HA ⊢
 unfold vec at *
 by_cases h0 : e0 = 0
 ·
  subst h0
  cases kv with
  | false =>
   refine ⟨0, 0, 0, 0, 0, 0, 1, fun w hG => ?_⟩
   have HG := am hG
   clear hG
   go_enter Tryz.func76, Tryz.ntmps76
   go_upto_region 1 with fail
   obtain ⟨x3', x4', x5', x6', hB⟩ := blocks4 w #[p0, p1, p2, p3, p4, p5] #[k0, k1, k2] #[sp] #[(), (), (), (), (), ()] 46 26 2 46
   generalize (((w.alloc (.cells #[p0, p1, p2, p3, p4, p5] 46)).alloc (.cells #[k0, k1, k2] 26)).alloc (.cells #[sp] 2)).alloc (.cells #[(), (), (), (), (), ()] 46) = w1 at x3' x4' x5' x6' hB ⊢
   obtain ⟨b3, h3⟩ := e_x (w.heap.size)
   obtain ⟨b4, h4⟩ := e_x (w.heap.size + 1)
   obtain ⟨b5, h5⟩ := e_x (w.heap.size + 1 + 1)
   obtain ⟨b6, h6⟩ := e_x (w.heap.size + 1 + 1 + 1)
   have g3 : w.heap.size ≤ b3 := by omega
   have g4 : w.heap.size ≤ b4 := by omega
   have g5 : w.heap.size ≤ b5 := by omega
   have g6 : w.heap.size ≤ b6 := by omega
   have n3_4 : b3 ≠ b4 := by omega
   have n3_5 : b3 ≠ b5 := by omega
   have n3_6 : b3 ≠ b6 := by omega
   have n4_3 : b4 ≠ b3 := by omega
   have n4_5 : b4 ≠ b5 := by omega
   have n4_6 : b4 ≠ b6 := by omega
   have n5_3 : b5 ≠ b3 := by omega
   have n5_4 : b5 ≠ b4 := by omega
   have n5_6 : b5 ≠ b6 := by omega
   have n6_3 : b6 ≠ b3 := by omega
   have n6_4 : b6 ≠ b4 := by omega
   have n6_5 : b6 ≠ b5 := by omega
   rw [← h6, ← h5, ← h4, ← h3]
   rw [← h6] at x6'
   rw [← h5] at x5'
   rw [← h4] at x4'
   rw [← h3] at x3'
   have H3 := am x3'
   have H4 := am x4'
   have H5 := am x5'
   have H6 := am x6'
   have HB := am hB
   clear x3' x4' x5' x6' hB h3 h4 h5 h6
   have y30 := b_v H3 0 (.int .i64 p0) rfl
   have y31 := b_v H3 1 (.int .i64 p1) rfl
   have y32 := b_v H3 2 (.int .i64 p2) rfl
   have y33 := b_v H3 3 (.int .i64 p3) rfl
   have y34 := b_v H3 4 (.int .i64 p4) rfl
   have y35 := b_v H3 5 (.int .i64 p5) rfl
   go_wp2_with fail
   refine (HA.out w1 (HG.out.below HB.out)).mono ?_
   rintro e w2 ⟨rfl, hb⟩
   replace H3 := b_b H3 hb
   replace H4 := b_b H4 hb
   replace H5 := b_b H5 hb
   replace H6 := b_b H6 hb
   replace HB := b_s HB hb
   clear y30 y31 y32 y33 y34 y35
   clear hb
   go_upto_region 2 with fail
   replace H3 := am (blk_alloc H3.out (.cells #[n0, n1, n2, n3, n4, n5] 46))
   replace H4 := am (blk_alloc H4.out (.cells #[n0, n1, n2, n3, n4, n5] 46))
   replace H5 := am (blk_alloc H5.out (.cells #[n0, n1, n2, n3, n4, n5] 46))
   replace H6 := am (blk_alloc H6.out (.cells #[n0, n1, n2, n3, n4, n5] 46))
   replace HB := am (below_alloc HB.out (.cells #[n0, n1, n2, n3, n4, n5] 46))
   generalize w2.alloc (.cells #[n0, n1, n2, n3, n4, n5] 46) = w3 at H3 H4 H5 H6 HB ⊢
   generalize w2.heap.size = b8
   have y40 := b_v H4 0 (.int .i64 k0) rfl
   have y41 := b_v H4 1 (.int .i64 k1) rfl
   have y42 := b_v H4 2 (.int .i64 k2) rfl
   go_wp2_with fail
   refine (HV.out w3 (HG.out.below HB.out)).mono ?_
   rintro e w4 ⟨rfl, hb⟩
   clear y40 y41 y42
   replace H3 := b_b H3 hb
   replace H4 := b_b H4 hb
   replace H5 := b_b H5 hb
   replace H6 := b_b H6 hb
   replace HB := b_s HB hb
   clear hb
   have y60 := b_v H6 0 (.int .i64 0) rfl
   have f60 := b_z H6 0
   have y61 := b_v H6 1 (.int .i64 0) rfl
   have f61 := b_z H6 1
   have y62 := b_v H6 2 (.int .i64 0) rfl
   have f62 := b_z H6 2
   have y63 := b_v H6 3 (.int .i64 0) rfl
   have f63 := b_z H6 3
   have y64 := b_v H6 4 (.int .i64 0) rfl
   have f64 := b_z H6 4
   have y65 := b_v H6 5 (.int .i64 0) rfl
   have f65 := b_z H6 5
   go_wp2_with fail
   obtain ⟨q, qb⟩ := six_set rfl H6.out g6 HB.out (.int .i64 0) (.int .i64 0) (.int .i64 0) (.int .i64 0) (.int .i64 0) (.int .i64 0)
   exact bodyPost_ret (results_ct rfl _ _ b6 46 _ (0, 0) _ rfl q Tryz.underlying46 rfl (by kernel_rfl)) rfl ⟨rfl, qb⟩
  | true =>
   cases hf : fits sp with
   | false =>
    have HF := am hf
    clear hf
    refine ⟨0, 0, 0, 0, 0, 0, 1, fun w hG => ?_⟩
    have HG := am hG
    clear hG
    go_enter Tryz.func76, Tryz.ntmps76
    go_upto_region 1 with fail
    obtain ⟨x3', x4', x5', x6', hB⟩ := blocks4 w #[p0, p1, p2, p3, p4, p5] #[k0, k1, k2] #[sp] #[(), (), (), (), (), ()] 46 26 2 46
    generalize (((w.alloc (.cells #[p0, p1, p2, p3, p4, p5] 46)).alloc (.cells #[k0, k1, k2] 26)).alloc (.cells #[sp] 2)).alloc (.cells #[(), (), (), (), (), ()] 46) = w1 at x3' x4' x5' x6' hB ⊢
    obtain ⟨b3, h3⟩ := e_x (w.heap.size)
    obtain ⟨b4, h4⟩ := e_x (w.heap.size + 1)
    obtain ⟨b5, h5⟩ := e_x (w.heap.size + 1 + 1)
    obtain ⟨b6, h6⟩ := e_x (w.heap.size + 1 + 1 + 1)
    have g3 : w.heap.size ≤ b3 := by omega
    have g4 : w.heap.size ≤ b4 := by omega
    have g5 : w.heap.size ≤ b5 := by omega
    have g6 : w.heap.size ≤ b6 := by omega
    have n3_4 : b3 ≠ b4 := by omega
    have n3_5 : b3 ≠ b5 := by omega
    have n3_6 : b3 ≠ b6 := by omega
    have n4_3 : b4 ≠ b3 := by omega
    have n4_5 : b4 ≠ b5 := by omega
    have n4_6 : b4 ≠ b6 := by omega
    have n5_3 : b5 ≠ b3 := by omega
    have n5_4 : b5 ≠ b4 := by omega
    have n5_6 : b5 ≠ b6 := by omega
    have n6_3 : b6 ≠ b3 := by omega
    have n6_4 : b6 ≠ b4 := by omega
    have n6_5 : b6 ≠ b5 := by omega
    rw [← h6, ← h5, ← h4, ← h3]
    rw [← h6] at x6'
    rw [← h5] at x5'
    rw [← h4] at x4'
    rw [← h3] at x3'
    have H3 := am x3'
    have H4 := am x4'
    have H5 := am x5'
    have H6 := am x6'
    have HB := am hB
    clear x3' x4' x5' x6' hB h3 h4 h5 h6
    have y30 := b_v H3 0 (.int .i64 p0) rfl
    have y31 := b_v H3 1 (.int .i64 p1) rfl
    have y32 := b_v H3 2 (.int .i64 p2) rfl
    have y33 := b_v H3 3 (.int .i64 p3) rfl
    have y34 := b_v H3 4 (.int .i64 p4) rfl
    have y35 := b_v H3 5 (.int .i64 p5) rfl
    go_wp2_with fail
    refine (HA.out w1 (HG.out.below HB.out)).mono ?_
    rintro e w2 ⟨rfl, hb⟩
    replace H3 := b_b H3 hb
    replace H4 := b_b H4 hb
    replace H5 := b_b H5 hb
    replace H6 := b_b H6 hb
    replace HB := b_s HB hb
    clear y30 y31 y32 y33 y34 y35
    clear hb
    go_upto_region 2 with fail
    replace H3 := am (blk_alloc H3.out (.cells #[n0, n1, n2, n3, n4, n5] 46))
    replace H4 := am (blk_alloc H4.out (.cells #[n0, n1, n2, n3, n4, n5] 46))
    replace H5 := am (blk_alloc H5.out (.cells #[n0, n1, n2, n3, n4, n5] 46))
    replace H6 := am (blk_alloc H6.out (.cells #[n0, n1, n2, n3, n4, n5] 46))
    replace HB := am (below_alloc HB.out (.cells #[n0, n1, n2, n3, n4, n5] 46))
    generalize w2.alloc (.cells #[n0, n1, n2, n3, n4, n5] 46) = w3 at H3 H4 H5 H6 HB ⊢
    generalize w2.heap.size = b8
    have y40 := b_v H4 0 (.int .i64 k0) rfl
    have y41 := b_v H4 1 (.int .i64 k1) rfl
    have y42 := b_v H4 2 (.int .i64 k2) rfl
    go_wp2_with fail
    refine (HV.out w3 (HG.out.below HB.out)).mono ?_
    rintro e w4 ⟨rfl, hb⟩
    clear y40 y41 y42
    replace H3 := b_b H3 hb
    replace H4 := b_b H4 hb
    replace H5 := b_b H5 hb
    replace H6 := b_b H6 hb
    replace HB := b_s HB hb
    clear hb
    have y5 := b_v H5 0 (.int .i64 sp) rfl
    go_wp2_with fail
    refine (fits_any w4 sp).mono ?_
    rintro e w5 ⟨rfl, rfl⟩
    rw [HF.out]
    clear y5
    have y60 := b_v H6 0 (.int .i64 0) rfl
    have f60 := b_z H6 0
    have y61 := b_v H6 1 (.int .i64 0) rfl
    have f61 := b_z H6 1
    have y62 := b_v H6 2 (.int .i64 0) rfl
    have f62 := b_z H6 2
    have y63 := b_v H6 3 (.int .i64 0) rfl
    have f63 := b_z H6 3
    have y64 := b_v H6 4 (.int .i64 0) rfl
    have f64 := b_z H6 4
    have y65 := b_v H6 5 (.int .i64 0) rfl
    have f65 := b_z H6 5
    go_wp2_with fail
    obtain ⟨q, qb⟩ := six_set rfl H6.out g6 HB.out (.int .i64 0) (.int .i64 0) (.int .i64 0) (.int .i64 0) (.int .i64 0) (.int .i64 0)
    exact bodyPost_ret (results_ct rfl _ _ b6 46 _ (0, 0) _ rfl q Tryz.underlying46 rfl (by kernel_rfl)) rfl ⟨rfl, qb⟩
   | true =>
    have HF := am hf
    clear hf
    refine ⟨r0, r1, r2, r3, r4, r5, er, fun w hG => ?_⟩
    have HG := am hG
    clear hG
    go_enter Tryz.func76, Tryz.ntmps76
    go_upto_region 1 with fail
    obtain ⟨x3', x4', x5', x6', hB⟩ := blocks4 w #[p0, p1, p2, p3, p4, p5] #[k0, k1, k2] #[sp] #[(), (), (), (), (), ()] 46 26 2 46
    generalize (((w.alloc (.cells #[p0, p1, p2, p3, p4, p5] 46)).alloc (.cells #[k0, k1, k2] 26)).alloc (.cells #[sp] 2)).alloc (.cells #[(), (), (), (), (), ()] 46) = w1 at x3' x4' x5' x6' hB ⊢
    obtain ⟨b3, h3⟩ := e_x (w.heap.size)
    obtain ⟨b4, h4⟩ := e_x (w.heap.size + 1)
    obtain ⟨b5, h5⟩ := e_x (w.heap.size + 1 + 1)
    obtain ⟨b6, h6⟩ := e_x (w.heap.size + 1 + 1 + 1)
    have g3 : w.heap.size ≤ b3 := by omega
    have g4 : w.heap.size ≤ b4 := by omega
    have g5 : w.heap.size ≤ b5 := by omega
    have g6 : w.heap.size ≤ b6 := by omega
    have n3_4 : b3 ≠ b4 := by omega
    have n3_5 : b3 ≠ b5 := by omega
    have n3_6 : b3 ≠ b6 := by omega
    have n4_3 : b4 ≠ b3 := by omega
    have n4_5 : b4 ≠ b5 := by omega
    have n4_6 : b4 ≠ b6 := by omega
    have n5_3 : b5 ≠ b3 := by omega
    have n5_4 : b5 ≠ b4 := by omega
    have n5_6 : b5 ≠ b6 := by omega
    have n6_3 : b6 ≠ b3 := by omega
    have n6_4 : b6 ≠ b4 := by omega
    have n6_5 : b6 ≠ b5 := by omega
    rw [← h6, ← h5, ← h4, ← h3]
    rw [← h6] at x6'
    rw [← h5] at x5'
    rw [← h4] at x4'
    rw [← h3] at x3'
    have H3 := am x3'
    have H4 := am x4'
    have H5 := am x5'
    have H6 := am x6'
    have HB := am hB
    clear x3' x4' x5' x6' hB h3 h4 h5 h6
    have y30 := b_v H3 0 (.int .i64 p0) rfl
    have y31 := b_v H3 1 (.int .i64 p1) rfl
    have y32 := b_v H3 2 (.int .i64 p2) rfl
    have y33 := b_v H3 3 (.int .i64 p3) rfl
    have y34 := b_v H3 4 (.int .i64 p4) rfl
    have y35 := b_v H3 5 (.int .i64 p5) rfl
    go_wp2_with fail
    refine (HA.out w1 (HG.out.below HB.out)).mono ?_
    rintro e w2 ⟨rfl, hb⟩
    replace H3 := b_b H3 hb
    replace H4 := b_b H4 hb
    replace H5 := b_b H5 hb
    replace H6 := b_b H6 hb
    replace HB := b_s HB hb
    clear y30 y31 y32 y33 y34 y35
    clear hb
    go_upto_region 2 with fail
    replace H3 := am (blk_alloc H3.out (.cells #[n0, n1, n2, n3, n4, n5] 46))
    replace H4 := am (blk_alloc H4.out (.cells #[n0, n1, n2, n3, n4, n5] 46))
    replace H5 := am (blk_alloc H5.out (.cells #[n0, n1, n2, n3, n4, n5] 46))
    replace H6 := am (blk_alloc H6.out (.cells #[n0, n1, n2, n3, n4, n5] 46))
    replace HB := am (below_alloc HB.out (.cells #[n0, n1, n2, n3, n4, n5] 46))
    generalize w2.alloc (.cells #[n0, n1, n2, n3, n4, n5] 46) = w3 at H3 H4 H5 H6 HB ⊢
    generalize w2.heap.size = b8
    have y40 := b_v H4 0 (.int .i64 k0) rfl
    have y41 := b_v H4 1 (.int .i64 k1) rfl
    have y42 := b_v H4 2 (.int .i64 k2) rfl
    go_wp2_with fail
    refine (HV.out w3 (HG.out.below HB.out)).mono ?_
    rintro e w4 ⟨rfl, hb⟩
    clear y40 y41 y42
    replace H3 := b_b H3 hb
    replace H4 := b_b H4 hb
    replace H5 := b_b H5 hb
    replace H6 := b_b H6 hb
    replace HB := b_s HB hb
    clear hb
    have y5 := b_v H5 0 (.int .i64 sp) rfl
    go_wp2_with fail
    refine (fits_any w4 sp).mono ?_
    rintro e w5 ⟨rfl, rfl⟩
    rw [HF.out]
    clear y5
    have y30 := b_v H3 0 (.int .i64 p0) rfl
    have y31 := b_v H3 1 (.int .i64 p1) rfl
    have y32 := b_v H3 2 (.int .i64 p2) rfl
    have y33 := b_v H3 3 (.int .i64 p3) rfl
    have y34 := b_v H3 4 (.int .i64 p4) rfl
    have y35 := b_v H3 5 (.int .i64 p5) rfl
    go_upto_region 5 with fail
    clear y30 y31 y32 y33 y34 y35
    have n3_10 : b3 ≠ w5.heap.size := Nat.ne_of_lt (blk_lt H3.out)
    have n4_10 : b4 ≠ w5.heap.size := Nat.ne_of_lt (blk_lt H4.out)
    have n5_10 : b5 ≠ w5.heap.size := Nat.ne_of_lt (blk_lt H5.out)
    have n6_10 : b6 ≠ w5.heap.size := Nat.ne_of_lt (blk_lt H6.out)
    replace H3 := am (blk_alloc H3.out (.cells #[p0, p1, p2, p3, p4, p5] 46))
    replace H4 := am (blk_alloc H4.out (.cells #[p0, p1, p2, p3, p4, p5] 46))
    replace H5 := am (blk_alloc H5.out (.cells #[p0, p1, p2, p3, p4, p5] 46))
    replace H6 := am (blk_alloc H6.out (.cells #[p0, p1, p2, p3, p4, p5] 46))
    have H10 := am (blk_new w5 (.cells #[p0, p1, p2, p3, p4, p5] 46))
    have g10 : w.heap.size ≤ w5.heap.size := HB.out.size
    replace HB := am (below_alloc HB.out (.cells #[p0, p1, p2, p3, p4, p5] 46))
    generalize w5.alloc (.cells #[p0, p1, p2, p3, p4, p5] 46) = w6 at H3 H4 H5 H6 H10 HB ⊢
    generalize w5.heap.size = b10 at H10 g10 n3_10 n4_10 n5_10 n6_10 ⊢
    go_wp2_with fail
    refine wp_count 3 (dbO w b3 b4 b5 b6 b10 p0 p1 p2 p3 p4 p5 k0 k1 k2 sp Q E0 E1 E2) ?last ?round ?start
    case last =>
     rintro a w' ⟨iz, c, hsz, hd, e3, e4, e5, e6, e10, e38, hc, _⟩
     omega
    case start =>
     unfold dbO
     exact ⟨0, 0, rfl, rfl, rfl, rfl, rfl, rfl, rfl, rfl, .inl ⟨rfl, rfl, rfl⟩, ⟨fun q hq => by simp at hq⟩, H3, H4, H5, H6, ⟨by rw [show (0 : Int).toNat = 0 from rfl, HQ0.out]; exact H10.out⟩, HB⟩
    case round =>
     clear H3 H4 H5 H6 H10 HB
     rintro n hn K hK a w' ⟨iz, c0, hsz, hd, e3, e4, e5, e6, e10, e38, hc, HGd, H3, H4, H5, H6, H10, HB⟩
     obtain ⟨T, ds⟩ := a
     obtain rfl : ds = [] := hd
     obtain ⟨S, rfl⟩ := lit110_6 T _ _ _ _ _ _ hsz e3 e4 e5 e6 e10 e38
     clear hsz e3 e4 e5 e6 e10 e38
     have HK := am hK
     have HC := am hc
     have i0 : 0 ≤ iz := by omega
     have i3' : iz ≤ 3 := by omega
     clear hK hc hn
     by_cases i3 : iz < 3
     ·
      clear i3'
      go_upto_region 9 with fail
      replace H3 := am (blk_alloc H3.out (.cells #[iz] 3))
      replace H4 := am (blk_alloc H4.out (.cells #[iz] 3))
      replace H5 := am (blk_alloc H5.out (.cells #[iz] 3))
      replace H6 := am (blk_alloc H6.out (.cells #[iz] 3))
      replace H10 := am (blk_alloc H10.out (.cells #[iz] 3))
      have Hj := am (blk_new w' (.cells #[iz] 3))
      have gj : w.heap.size ≤ w'.heap.size := HB.out.size
      replace HB := am (below_alloc HB.out (.cells #[iz] 3))
      generalize w'.alloc (.cells #[iz] 3) = w7 at H3 H4 H5 H6 H10 Hj HB ⊢
      generalize w'.heap.size = bj at Hj gj ⊢
      refine wp_count 3 (dbI w b3 b4 b5 b6 b10 p0 p1 p2 p3 p4 p5 k0 k1 k2 sp Q E0 E1 E2 c0 iz) ?last2 ?round2 ?start2
      case last2 =>
       rintro a w' ⟨jz, c, bj, hsz, hd, e3, e4, e5, e6, e10, e11, e12, e38, hc, _⟩
       omega
      case start2 =>
       unfold dbI
       exact ⟨iz, c0, bj, rfl, rfl, rfl, rfl, rfl, rfl, rfl, rfl, rfl, rfl, ⟨by simp, by simp, by omega⟩, gj, Hj, HGd, H3, H4, H5, H6, H10, HB⟩
      case round2 =>
       clear H3 H4 H5 H6 H10 HB Hj HGd gj
       rintro k hk K2 hK2 a wj ⟨jz, c, bj, hsz, hd, e3, e4, e5, e6, e10, e11, e12, e38, hj, gj, Hj, HGd, H3, H4, H5, H6, H10, HB⟩
       obtain ⟨T, ds⟩ := a
       obtain rfl : ds = [] := hd
       obtain ⟨S, rfl⟩ := lit110_8 T _ _ _ _ _ _ _ _ hsz e3 e4 e5 e6 e10 e11 e12 e38
       clear hsz e3 e4 e5 e6 e10 e11 e12 e38
       have HK2 := am hK2
       have HE := am (fun h : jz < 3 => show Ent iz jz c by have := HC.out; unfold Ent; omega)
       have j0 : 0 ≤ jz := by omega
       have c1 : 0 ≤ c := by have := HC.out; omega
       have c6 : jz < 3 → c < 6 := by have := HC.out; omega
       have HJ := am hj
       have hj3' : jz ≤ 3 := hj.2.2
       clear hK2 hj hk
       by_cases hj3 : jz < 3
       ·
        replace c6 := c6 hj3
        have j3 := hj3
        clear hj3'
        obtain ⟨t, u1, a1, u2, b1, en, v1, a2, v2, b2, h0, h1, h2, h3, h4, h5, h6, h7, h8⟩ := HQ.out iz jz c (HE.out hj3)
        have HT0 := am h0
        have HT1 := am h1
        have HT2 := am h2
        have HE1 := am h3
        have HT4 := am h4
        have HT5 := am h5
        have HT6 := am h6
        have HE2 := am h7
        have HT8 := am h8
        clear h0 h1 h2 h3 h4 h5 h6 h7 h8
        unfold sym at HT4
        unfold sxA at HT8
        unfold Ch.two at HT0 HT4
        have yj := b_v Hj 0 (.int .i64 jz) rfl
        go_upto_region 11 with fail
        clear yj
        have j6 : jz < 6 := by omega
        have i6 : iz < 6 := by omega
        as_aux_lemma =>
         apply cut1_ (fun b13 W => w.heap.size ≤ b13 ∧ Aside0 (W.heap[b3]? = some (.cells #[p0, p1, p2, p3, p4, p5] 46 (0, 0))) ∧ Aside0 (W.heap[b4]? = some (.cells #[k0, k1, k2] 26 (0, 0))) ∧ Aside0 (W.heap[b5]? = some (.cells #[sp] 2 (0, 0))) ∧ Aside0 (W.heap[b6]? = some (.cells #[(), (), (), (), (), ()] 46 (0, 0))) ∧ Aside0 (W.heap[b10]? = some (.cells #[.int .i64 (Q c.toNat 0), .int .i64 (Q c.toNat 1), .int .i64 (Q c.toNat 2), .int .i64 (Q c.toNat 3), .int .i64 (Q c.toNat 4), .int .i64 (Q c.toNat 5)] 46 (0, 0))) ∧ Aside0 (Below w.heap.size w W) ∧ Aside0 (W.heap[bj]? = some (.cells #[jz] 3 (0, 0))) ∧ Aside0 (W.heap[b13]? = some (.cells #[t] 2 (0, 0))))
         ·
          intro join
          refine s_t 19 (fun w' => w'.heap[b4]? = some (.cells #[k0, k1, k2] 26 (0, 0)) ∧ w'.heap[bj]? = some (.cells #[jz] 3 (0, 0)) ∧ w'.heap[b3]? = some (.cells #[p0, p1, p2, p3, p4, p5] 46 (0, 0))) ⟨H4.out, Hj.out, H3.out⟩ (fun hHeld => ?_)
          replace H3 := b_d H3
          replace H4 := b_d H4
          replace H5 := b_d H5
          replace H6 := b_d H6
          replace H10 := b_d H10
          replace Hj := b_d Hj
          replace HB := am (below_drew HB.out)
          generalize wj.drew = x1 at H3 H4 H5 H6 H10 Hj HB hHeld ⊢
          refine p_u 0 47 19 1 ?_
          refine p_u 1 48 19 3 ?_
          refine t_a 2 49 19 7 hHeld ?_ (hv := by rintro w' ⟨s0, s1, s2⟩; have x := r3k_get i0 i3 s0 ⟨rfl, rfl, rfl⟩; go_simp; with_reducible rfl)
          refine t_a 3 50 19 15 hHeld ?_ (hv := by rintro w' ⟨s0, s1, s2⟩; have x := bcv s1 0 (.int .i64 jz) rfl; go_simp; with_reducible rfl)
          refine p_u 4 51 19 31 ?_
          refine t_a 5 52 19 63 hHeld ?_ (hv := by rintro w' ⟨s0, s1, s2⟩; have x := r3k_get j0 j3 s2 ⟨rfl, rfl, rfl⟩; go_simp; with_reducible rfl)
          refine t_a 6 53 19 127 hHeld ?_ (hv := by rintro w' ⟨s0, s1, s2⟩; have x := bcv s1 0 (.int .i64 jz) rfl; go_simp; with_reducible rfl)
          refine p_u 7 54 19 255 ?_
          refine t_a 8 55 19 511 hHeld ?_ (hv := by rintro w' ⟨s0, s1, s2⟩; have x := r3k_get j0 j3 s0 ⟨rfl, rfl, rfl⟩; go_simp; with_reducible rfl)
          refine p_u 9 56 19 1023 ?_
          refine p_u 10 57 19 2047 ?_
          refine t_a 11 58 19 4095 hHeld ?_ (hv := by rintro w' ⟨s0, s1, s2⟩; have x := r3k_get i0 i3 s2 ⟨rfl, rfl, rfl⟩; go_simp; with_reducible rfl)
          refine two_ (i := 12) (j := 16) (Ni := (some 59)) (Nj := (some 13)) (flg 19 8191) (flg 19 69631) rfl rfl rfl rfl (by kernel_rfl) (by decide) (by decide) (fun K hK => ?_) (fun K hK => ?_)
          ·
           skip
           refine g_s Tryz.func113 #[.int .i64 (r3k k0 k1 k2 iz.toNat), .int .i64 (r3k p0 p1 p2 jz.toNat), .int .i64 (r3k k0 k1 k2 jz.toNat), .int .i64 (r3k p0 p1 p2 iz.toNat)] ?_
           refine (HT0.out x1 (HG.out.below HB.out)).mono ?_
           rintro e x2 ⟨rfl, hb⟩
           replace H3 := b_b H3 hb
           replace H4 := b_b H4 hb
           replace H5 := b_b H5 hb
           replace H6 := b_b H6 hb
           replace H10 := b_b H10 hb
           replace Hj := b_b Hj hb
           replace HB := b_s HB hb
           clear hb hHeld
           refine ⟨_, rfl, ?_⟩
           refine hK.out _ _ ⟨H4.out, Hj.out, H3.out⟩ (fun hHeld => ?_)
           clear hK K
           refine n_o 59 ?_
           refine p_u 13 46 19 16383 ?_
           refine p_u 14 60 19 32767 ?_
           refine p_u 15 61 19 65535 ?_
           refine o_n 16 13 19 131071 fun K hK => ?_
           refine event_step (v := .pointer (some ⟨x2.heap.size, 0, none⟩)) (w1 := x2.alloc (.cells #[()] 2)) (by rfl) (by first | (go_simp; done) | (go_simp; rfl)) ?_
           have n3_13 : b3 ≠ x2.heap.size := Nat.ne_of_lt (blk_lt H3.out)
           have n4_13 : b4 ≠ x2.heap.size := Nat.ne_of_lt (blk_lt H4.out)
           have n5_13 : b5 ≠ x2.heap.size := Nat.ne_of_lt (blk_lt H5.out)
           have n6_13 : b6 ≠ x2.heap.size := Nat.ne_of_lt (blk_lt H6.out)
           have n10_13 : b10 ≠ x2.heap.size := Nat.ne_of_lt (blk_lt H10.out)
           have nj_13 : bj ≠ x2.heap.size := Nat.ne_of_lt (blk_lt Hj.out)
           replace H3 := am (blk_alloc H3.out (.cells #[()] 2))
           replace H4 := am (blk_alloc H4.out (.cells #[()] 2))
           replace H5 := am (blk_alloc H5.out (.cells #[()] 2))
           replace H6 := am (blk_alloc H6.out (.cells #[()] 2))
           replace H10 := am (blk_alloc H10.out (.cells #[()] 2))
           replace Hj := am (blk_alloc Hj.out (.cells #[()] 2))
           have H13 := am (blk_new x2 (.cells #[()] 2))
           have g13 : w.heap.size ≤ x2.heap.size := HB.out.size
           replace HB := am (below_alloc HB.out (.cells #[()] 2))
           generalize x2.alloc (.cells #[()] 2) = x3 at H3 H4 H5 H6 H10 Hj H13 HB ⊢
           generalize x2.heap.size = b13 at H13 g13 n3_13 n4_13 n5_13 n6_13 n10_13 nj_13 ⊢
           clear hHeld
           refine hK.out _ _ ⟨H4.out, Hj.out, H3.out⟩ (fun hHeld => ?_)
           clear hK K
           refine n_o 13 ?_
           have y13 := b_v H13 0 (.int .i64 0) rfl
           have f13 := b_z H13 0
           refine o_0 17 19 262143 fun K hK => ?_
           refine s_k (x3.setCell ⟨b13, 0, none⟩ (.int .i64 t)) ?_
           clear hHeld y13 f13
           have q := blk_set H13.out 0 (.int .i64 t)
           have qb := HB.out.setCell (p := ⟨b13, 0, none⟩) g13 (.int .i64 t)
           have qo0 := blk_far H3.out (p := ⟨b13, 0, none⟩) n3_13 (.int .i64 t)
           have qo1 := blk_far H4.out (p := ⟨b13, 0, none⟩) n4_13 (.int .i64 t)
           have qo2 := blk_far H5.out (p := ⟨b13, 0, none⟩) n5_13 (.int .i64 t)
           have qo3 := blk_far H6.out (p := ⟨b13, 0, none⟩) n6_13 (.int .i64 t)
           have qo4 := blk_far H10.out (p := ⟨b13, 0, none⟩) n10_13 (.int .i64 t)
           have qo5 := blk_far Hj.out (p := ⟨b13, 0, none⟩) nj_13 (.int .i64 t)
           clear H13 HB H3 H4 H5 H6 H10 Hj
           generalize x3.setCell ⟨b13, 0, none⟩ (.int .i64 t) = x4 at q qb qo0 qo1 qo2 qo3 qo4 qo5 ⊢
           have HB := am qb
           have H3 := am qo0
           have H4 := am qo1
           have H5 := am qo2
           have H6 := am qo3
           have H10 := am qo4
           have Hj := am qo5
           clear qb qo0 qo1 qo2 qo3 qo4 qo5
           have H13 := am (show x4.heap[b13]? = some (.cells #[t] 2 (0, 0)) from q)
           clear q
           refine hK.out _ _ ⟨H4.out, Hj.out, H3.out⟩ (fun hHeld => ?_)
           clear hK K
           refine p_u 18 14 19 524287 ?_
           refine d_n ?_
           have g13w : w.heap.size ≤ b13 := g13
           exact join b13 x4 ⟨g13w, H3, H4, H5, H6, H10, HB, Hj, H13⟩
          skip
          refine event_step (v := .pointer (some ⟨x1.heap.size, 0, none⟩)) (w1 := x1.alloc (.cells #[()] 2)) (by rfl) (by first | (go_simp; done) | (go_simp; rfl)) ?_
          have n3_13 : b3 ≠ x1.heap.size := Nat.ne_of_lt (blk_lt H3.out)
          have n4_13 : b4 ≠ x1.heap.size := Nat.ne_of_lt (blk_lt H4.out)
          have n5_13 : b5 ≠ x1.heap.size := Nat.ne_of_lt (blk_lt H5.out)
          have n6_13 : b6 ≠ x1.heap.size := Nat.ne_of_lt (blk_lt H6.out)
          have n10_13 : b10 ≠ x1.heap.size := Nat.ne_of_lt (blk_lt H10.out)
          have nj_13 : bj ≠ x1.heap.size := Nat.ne_of_lt (blk_lt Hj.out)
          replace H3 := am (blk_alloc H3.out (.cells #[()] 2))
          replace H4 := am (blk_alloc H4.out (.cells #[()] 2))
          replace H5 := am (blk_alloc H5.out (.cells #[()] 2))
          replace H6 := am (blk_alloc H6.out (.cells #[()] 2))
          replace H10 := am (blk_alloc H10.out (.cells #[()] 2))
          replace Hj := am (blk_alloc Hj.out (.cells #[()] 2))
          have H13 := am (blk_new x1 (.cells #[()] 2))
          have g13 : w.heap.size ≤ x1.heap.size := HB.out.size
          replace HB := am (below_alloc HB.out (.cells #[()] 2))
          generalize x1.alloc (.cells #[()] 2) = x2 at H3 H4 H5 H6 H10 Hj H13 HB ⊢
          generalize x1.heap.size = b13 at H13 g13 n3_13 n4_13 n5_13 n6_13 n10_13 nj_13 ⊢
          clear hHeld
          refine hK.out _ _ ⟨H4.out, Hj.out, H3.out⟩ (fun hHeld => ?_)
          clear hK K
          refine n_o 13 ?_
          refine o_n 12 59 19 73727 fun K hK => ?_
          refine g_s Tryz.func113 #[.int .i64 (r3k k0 k1 k2 iz.toNat), .int .i64 (r3k p0 p1 p2 jz.toNat), .int .i64 (r3k k0 k1 k2 jz.toNat), .int .i64 (r3k p0 p1 p2 iz.toNat)] ?_
          refine (HT0.out x2 (HG.out.below HB.out)).mono ?_
          rintro e x3 ⟨rfl, hb⟩
          replace H3 := b_b H3 hb
          replace H4 := b_b H4 hb
          replace H5 := b_b H5 hb
          replace H6 := b_b H6 hb
          replace H10 := b_b H10 hb
          replace Hj := b_b Hj hb
          replace H13 := b_b H13 hb
          replace HB := b_s HB hb
          clear hb hHeld
          refine ⟨_, rfl, ?_⟩
          refine hK.out _ _ ⟨H4.out, Hj.out, H3.out⟩ (fun hHeld => ?_)
          clear hK K
          refine n_o 59 ?_
          refine p_u 13 46 19 81919 ?_
          refine p_u 14 60 19 98303 ?_
          refine p_u 15 61 19 131071 ?_
          have y13 := b_v H13 0 (.int .i64 0) rfl
          have f13 := b_z H13 0
          refine o_0 17 19 262143 fun K hK => ?_
          refine s_k (x3.setCell ⟨b13, 0, none⟩ (.int .i64 t)) ?_
          clear hHeld y13 f13
          have q := blk_set H13.out 0 (.int .i64 t)
          have qb := HB.out.setCell (p := ⟨b13, 0, none⟩) g13 (.int .i64 t)
          have qo0 := blk_far H3.out (p := ⟨b13, 0, none⟩) n3_13 (.int .i64 t)
          have qo1 := blk_far H4.out (p := ⟨b13, 0, none⟩) n4_13 (.int .i64 t)
          have qo2 := blk_far H5.out (p := ⟨b13, 0, none⟩) n5_13 (.int .i64 t)
          have qo3 := blk_far H6.out (p := ⟨b13, 0, none⟩) n6_13 (.int .i64 t)
          have qo4 := blk_far H10.out (p := ⟨b13, 0, none⟩) n10_13 (.int .i64 t)
          have qo5 := blk_far Hj.out (p := ⟨b13, 0, none⟩) nj_13 (.int .i64 t)
          clear H13 HB H3 H4 H5 H6 H10 Hj
          generalize x3.setCell ⟨b13, 0, none⟩ (.int .i64 t) = x4 at q qb qo0 qo1 qo2 qo3 qo4 qo5 ⊢
          have HB := am qb
          have H3 := am qo0
          have H4 := am qo1
          have H5 := am qo2
          have H6 := am qo3
          have H10 := am qo4
          have Hj := am qo5
          clear qb qo0 qo1 qo2 qo3 qo4 qo5
          have H13 := am (show x4.heap[b13]? = some (.cells #[t] 2 (0, 0)) from q)
          clear q
          refine hK.out _ _ ⟨H4.out, Hj.out, H3.out⟩ (fun hHeld => ?_)
          clear hK K
          refine p_u 18 14 19 524287 ?_
          refine d_n ?_
          have g13w : w.heap.size ≤ b13 := g13
          exact join b13 x4 ⟨g13w, H3, H4, H5, H6, H10, HB, Hj, H13⟩
         clear H3 H4 H5 H6 H10 HB Hj
         rintro b13 x4 ⟨g13, H3, H4, H5, H6, H10, HB, Hj, H13⟩
         skip
         by_cases he : E0 c.toNat = 0
         ·
          have HZ0 := am he
          have z0' : (E0 c.toNat == 0) = true := by simp [he]
          have z1' : decide (E0 c.toNat = 0) = true := decide_eq_true he
          clear he
          as_aux_lemma =>
           have hmk := mk_func
           have yk := r3k_get i0 i3 H4.out (x0 := k0) (x1 := k1) (x2 := k2) ⟨rfl, rfl, rfl⟩
           go_wp2_with fail
           clear yk
           replace H3 := am (blk_alloc H3.out (.cells #[.func (.func 115) #[] #[.pointer (some ⟨b4, 0, none⟩), .pointer (some ⟨bj, 0, none⟩)], .func (.func 117) #[] #[.pointer (some ⟨b5, 0, none⟩)]] 106))
           replace H4 := am (blk_alloc H4.out (.cells #[.func (.func 115) #[] #[.pointer (some ⟨b4, 0, none⟩), .pointer (some ⟨bj, 0, none⟩)], .func (.func 117) #[] #[.pointer (some ⟨b5, 0, none⟩)]] 106))
           replace H5 := am (blk_alloc H5.out (.cells #[.func (.func 115) #[] #[.pointer (some ⟨b4, 0, none⟩), .pointer (some ⟨bj, 0, none⟩)], .func (.func 117) #[] #[.pointer (some ⟨b5, 0, none⟩)]] 106))
           replace H6 := am (blk_alloc H6.out (.cells #[.func (.func 115) #[] #[.pointer (some ⟨b4, 0, none⟩), .pointer (some ⟨bj, 0, none⟩)], .func (.func 117) #[] #[.pointer (some ⟨b5, 0, none⟩)]] 106))
           replace H10 := am (blk_alloc H10.out (.cells #[.func (.func 115) #[] #[.pointer (some ⟨b4, 0, none⟩), .pointer (some ⟨bj, 0, none⟩)], .func (.func 117) #[] #[.pointer (some ⟨b5, 0, none⟩)]] 106))
           replace Hj := am (blk_alloc Hj.out (.cells #[.func (.func 115) #[] #[.pointer (some ⟨b4, 0, none⟩), .pointer (some ⟨bj, 0, none⟩)], .func (.func 117) #[] #[.pointer (some ⟨b5, 0, none⟩)]] 106))
           replace H13 := am (blk_alloc H13.out (.cells #[.func (.func 115) #[] #[.pointer (some ⟨b4, 0, none⟩), .pointer (some ⟨bj, 0, none⟩)], .func (.func 117) #[] #[.pointer (some ⟨b5, 0, none⟩)]] 106))
           have Hu := am (blk_new x4 (.cells #[.func (.func 115) #[] #[.pointer (some ⟨b4, 0, none⟩), .pointer (some ⟨bj, 0, none⟩)], .func (.func 117) #[] #[.pointer (some ⟨b5, 0, none⟩)]] 106))
           have gu : w.heap.size ≤ x4.heap.size := HB.out.size
           replace HB := am (below_alloc HB.out (.cells #[.func (.func 115) #[] #[.pointer (some ⟨b4, 0, none⟩), .pointer (some ⟨bj, 0, none⟩)], .func (.func 117) #[] #[.pointer (some ⟨b5, 0, none⟩)]] 106))
           generalize x4.alloc (.cells #[.func (.func 115) #[] #[.pointer (some ⟨b4, 0, none⟩), .pointer (some ⟨bj, 0, none⟩)], .func (.func 117) #[] #[.pointer (some ⟨b5, 0, none⟩)]] 106) = y1 at H3 H4 H5 H6 H10 Hj H13 Hu HB ⊢
           generalize x4.heap.size = bu at Hu gu ⊢
           refine (steps_any y1 (r3k k0 k1 k2 iz.toNat) u1 a1 u2 b1 115 117 #[.pointer (some ⟨b4, 0, none⟩), .pointer (some ⟨bj, 0, none⟩)] #[.pointer (some ⟨b5, 0, none⟩)] (fun _ _ => by kernel_rfl) (fun _ _ => by kernel_rfl) bu Hu.out (dstep1 k0 k1 k2 jz b4 bj (r3k k0 k1 k2 iz.toNat) u1 a1 HT1.out y1 (HG.out.below HB.out) H4.out Hj.out j0 j3) (fun w' hb => dstep2 sp b5 u1 u2 b1 HT2.out w' (HG.out.below (below_step HB.out hb)) (blk_below H5.out hb))).mono ?_
           rintro e y2 ⟨rfl, hb⟩
           replace H3 := b_b H3 hb
           replace H4 := b_b H4 hb
           replace H5 := b_b H5 hb
           replace H6 := b_b H6 hb
           replace H10 := b_b H10 hb
           replace Hj := b_b Hj hb
           replace H13 := b_b H13 hb
           replace HB := b_s HB hb
           clear hb Hu gu
           unfold Ch.two at HT6 ⊢
           rw [HE1.out]
           generalize stepsV u2 a1 b1 = uu at HT6 ⊢
           go_upto_region 15 with fail
           replace H3 := am (blk_alloc H3.out (.cells #[uu] 2))
           replace H4 := am (blk_alloc H4.out (.cells #[uu] 2))
           replace H5 := am (blk_alloc H5.out (.cells #[uu] 2))
           replace H6 := am (blk_alloc H6.out (.cells #[uu] 2))
           replace H10 := am (blk_alloc H10.out (.cells #[uu] 2))
           replace Hj := am (blk_alloc Hj.out (.cells #[uu] 2))
           replace H13 := am (blk_alloc H13.out (.cells #[uu] 2))
           have H15 := am (blk_new y2 (.cells #[uu] 2))
           have g15 : w.heap.size ≤ y2.heap.size := HB.out.size
           replace HB := am (below_alloc HB.out (.cells #[uu] 2))
           generalize y2.alloc (.cells #[uu] 2) = y3 at H3 H4 H5 H6 H10 Hj H13 H15 HB ⊢
           generalize y2.heap.size = b15 at H15 g15 ⊢
           by_cases he : E1 c.toNat = 0
           ·
            have HZ1 := am he
            have z2' : (E1 c.toNat == 0) = true := by simp [he]
            have z3' : decide (E1 c.toNat = 0) = true := decide_eq_true he
            clear he
            as_aux_lemma =>
             have y30 := b_v H3 0 (.int .i64 p0) rfl
             have y31 := b_v H3 1 (.int .i64 p1) rfl
             have y32 := b_v H3 2 (.int .i64 p2) rfl
             have y33 := b_v H3 3 (.int .i64 p3) rfl
             have y34 := b_v H3 4 (.int .i64 p4) rfl
             have y35 := b_v H3 5 (.int .i64 p5) rfl
             have yj := b_v Hj 0 (.int .i64 jz) rfl
             go_wp2_with fail
             refine (HT4.out y3 (HG.out.below HB.out)).mono ?_
             rintro e y4 ⟨rfl, hb⟩
             clear yj
             clear y30 y31 y32 y33 y34 y35
             replace H3 := b_b H3 hb
             replace H4 := b_b H4 hb
             replace H5 := b_b H5 hb
             replace H6 := b_b H6 hb
             replace H10 := b_b H10 hb
             replace Hj := b_b Hj hb
             replace H13 := b_b H13 hb
             replace H15 := b_b H15 hb
             replace HB := b_s HB hb
             clear hb
             go_wp2_with fail
             replace H3 := am (blk_alloc H3.out (.cells #[.func (.func 119) #[] #[.pointer (some ⟨b13, 0, none⟩)], .func (.func 120) #[] #[.pointer (some ⟨b15, 0, none⟩)]] 106))
             replace H4 := am (blk_alloc H4.out (.cells #[.func (.func 119) #[] #[.pointer (some ⟨b13, 0, none⟩)], .func (.func 120) #[] #[.pointer (some ⟨b15, 0, none⟩)]] 106))
             replace H5 := am (blk_alloc H5.out (.cells #[.func (.func 119) #[] #[.pointer (some ⟨b13, 0, none⟩)], .func (.func 120) #[] #[.pointer (some ⟨b15, 0, none⟩)]] 106))
             replace H6 := am (blk_alloc H6.out (.cells #[.func (.func 119) #[] #[.pointer (some ⟨b13, 0, none⟩)], .func (.func 120) #[] #[.pointer (some ⟨b15, 0, none⟩)]] 106))
             replace H10 := am (blk_alloc H10.out (.cells #[.func (.func 119) #[] #[.pointer (some ⟨b13, 0, none⟩)], .func (.func 120) #[] #[.pointer (some ⟨b15, 0, none⟩)]] 106))
             replace Hj := am (blk_alloc Hj.out (.cells #[.func (.func 119) #[] #[.pointer (some ⟨b13, 0, none⟩)], .func (.func 120) #[] #[.pointer (some ⟨b15, 0, none⟩)]] 106))
             replace H13 := am (blk_alloc H13.out (.cells #[.func (.func 119) #[] #[.pointer (some ⟨b13, 0, none⟩)], .func (.func 120) #[] #[.pointer (some ⟨b15, 0, none⟩)]] 106))
             replace H15 := am (blk_alloc H15.out (.cells #[.func (.func 119) #[] #[.pointer (some ⟨b13, 0, none⟩)], .func (.func 120) #[] #[.pointer (some ⟨b15, 0, none⟩)]] 106))
             have Hv := am (blk_new y4 (.cells #[.func (.func 119) #[] #[.pointer (some ⟨b13, 0, none⟩)], .func (.func 120) #[] #[.pointer (some ⟨b15, 0, none⟩)]] 106))
             have gv : w.heap.size ≤ y4.heap.size := HB.out.size
             replace HB := am (below_alloc HB.out (.cells #[.func (.func 119) #[] #[.pointer (some ⟨b13, 0, none⟩)], .func (.func 120) #[] #[.pointer (some ⟨b15, 0, none⟩)]] 106))
             generalize y4.alloc (.cells #[.func (.func 119) #[] #[.pointer (some ⟨b13, 0, none⟩)], .func (.func 120) #[] #[.pointer (some ⟨b15, 0, none⟩)]] 106) = y5 at H3 H4 H5 H6 H10 Hj H13 H15 Hv HB ⊢
             generalize y4.heap.size = bv at Hv gv ⊢
             refine (steps_any y5 en v1 a2 v2 b2 119 120 #[.pointer (some ⟨b13, 0, none⟩)] #[.pointer (some ⟨b15, 0, none⟩)] (fun _ _ => by kernel_rfl) (fun _ _ => by kernel_rfl) bv Hv.out (dstep3 t b13 en v1 a2 HT5.out y5 (HG.out.below HB.out) H13.out) (fun w' hb => dstep4 uu b15 v1 v2 b2 HT6.out w' (HG.out.below (below_step HB.out hb)) (blk_below H15.out hb))).mono ?_
             rintro e y6 ⟨rfl, hb⟩
             replace H3 := b_b H3 hb
             replace H4 := b_b H4 hb
             replace H5 := b_b H5 hb
             replace H6 := b_b H6 hb
             replace H10 := b_b H10 hb
             replace Hj := b_b Hj hb
             replace H13 := b_b H13 hb
             replace H15 := b_b H15 hb
             replace HB := b_s HB hb
             clear hb Hv gv
             unfold Ch.two
             rw [HE2.out]
             generalize stepsV v2 a2 b2 = vv at HT8 ⊢
             by_cases he : E2 c.toNat = 0
             ·
              have HZ2 := am he
              have z4' : (E2 c.toNat == 0) = true := by simp [he]
              have z5' : decide (E2 c.toNat = 0) = true := decide_eq_true he
              clear he
              as_aux_lemma =>
               have y100 := b_v H10 0 (.int .i64 (Q c.toNat 0)) rfl
               have y101 := b_v H10 1 (.int .i64 (Q c.toNat 1)) rfl
               have y102 := b_v H10 2 (.int .i64 (Q c.toNat 2)) rfl
               have y103 := b_v H10 3 (.int .i64 (Q c.toNat 3)) rfl
               have y104 := b_v H10 4 (.int .i64 (Q c.toNat 4)) rfl
               have y105 := b_v H10 5 (.int .i64 (Q c.toNat 5)) rfl
               have yj := b_v Hj 0 (.int .i64 jz) rfl
               go_wp2_with fail
               refine (HT8.out y6 (HG.out.below HB.out)).mono ?_
               rintro e y7 ⟨rfl, hb⟩
               clear yj
               clear y100 y101 y102 y103 y104 y105
               replace H3 := b_b H3 hb
               replace H4 := b_b H4 hb
               replace H5 := b_b H5 hb
               replace H6 := b_b H6 hb
               replace H10 := b_b H10 hb
               replace Hj := b_b Hj hb
               replace HB := b_s HB hb
               clear hb
               as_aux_lemma =>
                have y100 := b_v H10 0 (.int .i64 (Q c.toNat 0)) rfl
                have f100 := b_z H10 0
                have y101 := b_v H10 1 (.int .i64 (Q c.toNat 1)) rfl
                have f101 := b_z H10 1
                have y102 := b_v H10 2 (.int .i64 (Q c.toNat 2)) rfl
                have f102 := b_z H10 2
                have y103 := b_v H10 3 (.int .i64 (Q c.toNat 3)) rfl
                have f103 := b_z H10 3
                have y104 := b_v H10 4 (.int .i64 (Q c.toNat 4)) rfl
                have f104 := b_z H10 4
                have y105 := b_v H10 5 (.int .i64 (Q c.toNat 5)) rfl
                have f105 := b_z H10 5
                go_upto_region 22 with fail
                have nj_10 : bj ≠ b10 := blk_ne Hj.out H10.out (by decide)
                obtain ⟨q, qb⟩ := six_set rfl H10.out g10 HB.out (.int .i64 (Q (c.toNat + 1) 0)) (.int .i64 (Q (c.toNat + 1) 1)) (.int .i64 (Q (c.toNat + 1) 2)) (.int .i64 (Q (c.toNat + 1) 3)) (.int .i64 (Q (c.toNat + 1) 4)) (.int .i64 (Q (c.toNat + 1) 5))
                have qo0 := (blk_far (blk_far (blk_far (blk_far (blk_far (blk_far H3.out (p := ⟨b10, 0, none⟩) n3_10 (.int .i64 (Q (c.toNat + 1) 0))) (p := ⟨b10, 1, none⟩) n3_10 (.int .i64 (Q (c.toNat + 1) 1))) (p := ⟨b10, 2, none⟩) n3_10 (.int .i64 (Q (c.toNat + 1) 2))) (p := ⟨b10, 3, none⟩) n3_10 (.int .i64 (Q (c.toNat + 1) 3))) (p := ⟨b10, 4, none⟩) n3_10 (.int .i64 (Q (c.toNat + 1) 4))) (p := ⟨b10, 5, none⟩) n3_10 (.int .i64 (Q (c.toNat + 1) 5)))
                have qo1 := (blk_far (blk_far (blk_far (blk_far (blk_far (blk_far H4.out (p := ⟨b10, 0, none⟩) n4_10 (.int .i64 (Q (c.toNat + 1) 0))) (p := ⟨b10, 1, none⟩) n4_10 (.int .i64 (Q (c.toNat + 1) 1))) (p := ⟨b10, 2, none⟩) n4_10 (.int .i64 (Q (c.toNat + 1) 2))) (p := ⟨b10, 3, none⟩) n4_10 (.int .i64 (Q (c.toNat + 1) 3))) (p := ⟨b10, 4, none⟩) n4_10 (.int .i64 (Q (c.toNat + 1) 4))) (p := ⟨b10, 5, none⟩) n4_10 (.int .i64 (Q (c.toNat + 1) 5)))
                have qo2 := (blk_far (blk_far (blk_far (blk_far (blk_far (blk_far H5.out (p := ⟨b10, 0, none⟩) n5_10 (.int .i64 (Q (c.toNat + 1) 0))) (p := ⟨b10, 1, none⟩) n5_10 (.int .i64 (Q (c.toNat + 1) 1))) (p := ⟨b10, 2, none⟩) n5_10 (.int .i64 (Q (c.toNat + 1) 2))) (p := ⟨b10, 3, none⟩) n5_10 (.int .i64 (Q (c.toNat + 1) 3))) (p := ⟨b10, 4, none⟩) n5_10 (.int .i64 (Q (c.toNat + 1) 4))) (p := ⟨b10, 5, none⟩) n5_10 (.int .i64 (Q (c.toNat + 1) 5)))
                have qo3 := (blk_far (blk_far (blk_far (blk_far (blk_far (blk_far H6.out (p := ⟨b10, 0, none⟩) n6_10 (.int .i64 (Q (c.toNat + 1) 0))) (p := ⟨b10, 1, none⟩) n6_10 (.int .i64 (Q (c.toNat + 1) 1))) (p := ⟨b10, 2, none⟩) n6_10 (.int .i64 (Q (c.toNat + 1) 2))) (p := ⟨b10, 3, none⟩) n6_10 (.int .i64 (Q (c.toNat + 1) 3))) (p := ⟨b10, 4, none⟩) n6_10 (.int .i64 (Q (c.toNat + 1) 4))) (p := ⟨b10, 5, none⟩) n6_10 (.int .i64 (Q (c.toNat + 1) 5)))
                have qo4 := (blk_far (blk_far (blk_far (blk_far (blk_far (blk_far Hj.out (p := ⟨b10, 0, none⟩) nj_10 (.int .i64 (Q (c.toNat + 1) 0))) (p := ⟨b10, 1, none⟩) nj_10 (.int .i64 (Q (c.toNat + 1) 1))) (p := ⟨b10, 2, none⟩) nj_10 (.int .i64 (Q (c.toNat + 1) 2))) (p := ⟨b10, 3, none⟩) nj_10 (.int .i64 (Q (c.toNat + 1) 3))) (p := ⟨b10, 4, none⟩) nj_10 (.int .i64 (Q (c.toNat + 1) 4))) (p := ⟨b10, 5, none⟩) nj_10 (.int .i64 (Q (c.toNat + 1) 5)))
                clear y100 y101 y102 y103 y104 y105 f100 f101 f102 f103 f104 f105
                clear H3 H4 H5 H6 Hj H10 HB
                generalize (((((y7.setCell ⟨b10, 0, none⟩ (.int .i64 (Q (c.toNat + 1) 0))).setCell ⟨b10, 1, none⟩ (.int .i64 (Q (c.toNat + 1) 1))).setCell ⟨b10, 2, none⟩ (.int .i64 (Q (c.toNat + 1) 2))).setCell ⟨b10, 3, none⟩ (.int .i64 (Q (c.toNat + 1) 3))).setCell ⟨b10, 4, none⟩ (.int .i64 (Q (c.toNat + 1) 4))).setCell ⟨b10, 5, none⟩ (.int .i64 (Q (c.toNat + 1) 5)) = z1 at q qb qo0 qo1 qo2 qo3 qo4 ⊢
                have H10 := am q
                have HB := am qb
                have H3 := am qo0
                have H4 := am qo1
                have H5 := am qo2
                have H6 := am qo3
                have Hj := am qo4
                clear q qb qo0 qo1 qo2 qo3 qo4
                as_aux_lemma =>
                 have yj := b_v Hj 0 (.int .i64 jz) rfl
                 go_upto_region 10 with fail
                 clear yj
                 replace H3 := am (blk_alloc H3.out (.cells #[jz] 3))
                 replace H4 := am (blk_alloc H4.out (.cells #[jz] 3))
                 replace H5 := am (blk_alloc H5.out (.cells #[jz] 3))
                 replace H6 := am (blk_alloc H6.out (.cells #[jz] 3))
                 replace H10 := am (blk_alloc H10.out (.cells #[jz] 3))
                 have Hq := am (blk_new z1 (.cells #[jz] 3))
                 have gq : w.heap.size ≤ z1.heap.size := HB.out.size
                 replace HB := am (below_alloc HB.out (.cells #[jz] 3))
                 generalize z1.alloc (.cells #[jz] 3) = z2 at H3 H4 H5 H6 H10 Hq HB ⊢
                 generalize z1.heap.size = bq at Hq gq ⊢
                 as_aux_lemma =>
                  have yq := b_v Hq 0 (.int .i64 jz) rfl
                  have fq := b_z Hq 0
                  go_wp2_with fail
                  refine HK2.out _ _ ?_
                  unfold dbI
                  have qq := blk_set Hq.out 0 (.int .i64 (jz + 1))
                  have qB := HB.out.setCell (p := ⟨bq, 0, none⟩) gq (.int .i64 (jz + 1))
                  have q3 := blk_far H3.out (p := ⟨bq, 0, none⟩) (blk_ne H3.out Hq.out (by decide)) (.int .i64 (jz + 1))
                  have q4 := blk_far H4.out (p := ⟨bq, 0, none⟩) (blk_ne H4.out Hq.out (by decide)) (.int .i64 (jz + 1))
                  have q5 := blk_far H5.out (p := ⟨bq, 0, none⟩) (blk_ne H5.out Hq.out (by decide)) (.int .i64 (jz + 1))
                  have q6 := blk_far H6.out (p := ⟨bq, 0, none⟩) (blk_ne H6.out Hq.out (by decide)) (.int .i64 (jz + 1))
                  have q10 := blk_far H10.out (p := ⟨bq, 0, none⟩) (blk_ne H10.out Hq.out (by decide)) (.int .i64 (jz + 1))
                  have HG2 := am (show ∀ q : Nat, q < (c + 1).toNat → errc E0 E1 E2 q = 0 from fun q hq => by
                   by_cases hq2 : q < c.toNat
                   ·
                    exact HGd.out q hq2
                   obtain rfl : q = c.toNat := by omega
                   simp [errc, HZ0.out, HZ1.out, HZ2.out])
                  exact ⟨jz + 1, c + 1, bq, rfl, rfl, rfl, rfl, rfl, rfl, rfl, rfl, rfl, rfl, by have := HJ.out; omega, gq, ⟨qq⟩, HG2, ⟨q3⟩, ⟨q4⟩, ⟨q5⟩, ⟨q6⟩, ⟨by rw [show (c + 1).toNat = c.toNat + 1 by omega]; exact q10⟩, ⟨qB⟩⟩
             skip
             as_aux_lemma =>
              have HBad := am (show errc E0 E1 E2 c.toNat = E2 c.toNat from by simp [errc, he, HZ0.out, HZ1.out])
              obtain ⟨rfl, rfl, rfl, rfl, rfl, rfl, her⟩ := HNO.out c.toNat (by omega) HGd.out (by rw [HBad.out]; exact he)
              rw [HBad.out] at her
              obtain rfl := her
              have z1 : (E2 c.toNat == 0) = false := by simp [he]
              have z2 : decide (E2 c.toNat = 0) = false := decide_eq_false he
              clear he HBad
              have y60 := b_v H6 0 (.int .i64 0) rfl
              have f60 := b_z H6 0
              have y61 := b_v H6 1 (.int .i64 0) rfl
              have f61 := b_z H6 1
              have y62 := b_v H6 2 (.int .i64 0) rfl
              have f62 := b_z H6 2
              have y63 := b_v H6 3 (.int .i64 0) rfl
              have f63 := b_z H6 3
              have y64 := b_v H6 4 (.int .i64 0) rfl
              have f64 := b_z H6 4
              have y65 := b_v H6 5 (.int .i64 0) rfl
              have f65 := b_z H6 5
              go_wp2_with fail
              obtain ⟨q, qb⟩ := six_set rfl H6.out g6 HB.out (.int .i64 0) (.int .i64 0) (.int .i64 0) (.int .i64 0) (.int .i64 0) (.int .i64 0)
              exact bodyPost_ret (results_ct rfl _ _ b6 46 _ (0, 0) _ rfl q Tryz.underlying46 rfl (by kernel_rfl)) rfl ⟨rfl, qb⟩
           skip
           as_aux_lemma =>
            have HBad := am (show errc E0 E1 E2 c.toNat = E1 c.toNat from by simp [errc, he, HZ0.out])
            obtain ⟨rfl, rfl, rfl, rfl, rfl, rfl, her⟩ := HNO.out c.toNat (by omega) HGd.out (by rw [HBad.out]; exact he)
            rw [HBad.out] at her
            obtain rfl := her
            have z1 : (E1 c.toNat == 0) = false := by simp [he]
            have z2 : decide (E1 c.toNat = 0) = false := decide_eq_false he
            clear he HBad
            have y60 := b_v H6 0 (.int .i64 0) rfl
            have f60 := b_z H6 0
            have y61 := b_v H6 1 (.int .i64 0) rfl
            have f61 := b_z H6 1
            have y62 := b_v H6 2 (.int .i64 0) rfl
            have f62 := b_z H6 2
            have y63 := b_v H6 3 (.int .i64 0) rfl
            have f63 := b_z H6 3
            have y64 := b_v H6 4 (.int .i64 0) rfl
            have f64 := b_z H6 4
            have y65 := b_v H6 5 (.int .i64 0) rfl
            have f65 := b_z H6 5
            go_wp2_with fail
            obtain ⟨q, qb⟩ := six_set rfl H6.out g6 HB.out (.int .i64 0) (.int .i64 0) (.int .i64 0) (.int .i64 0) (.int .i64 0) (.int .i64 0)
            exact bodyPost_ret (results_ct rfl _ _ b6 46 _ (0, 0) _ rfl q Tryz.underlying46 rfl (by kernel_rfl)) rfl ⟨rfl, qb⟩
         skip
         as_aux_lemma =>
          have HBad := am (show errc E0 E1 E2 c.toNat = E0 c.toNat from by simp [errc, he])
          obtain ⟨rfl, rfl, rfl, rfl, rfl, rfl, her⟩ := HNO.out c.toNat (by omega) HGd.out (by rw [HBad.out]; exact he)
          rw [HBad.out] at her
          obtain rfl := her
          have z1 : (E0 c.toNat == 0) = false := by simp [he]
          have z2 : decide (E0 c.toNat = 0) = false := decide_eq_false he
          clear he HBad
          have y60 := b_v H6 0 (.int .i64 0) rfl
          have f60 := b_z H6 0
          have y61 := b_v H6 1 (.int .i64 0) rfl
          have f61 := b_z H6 1
          have y62 := b_v H6 2 (.int .i64 0) rfl
          have f62 := b_z H6 2
          have y63 := b_v H6 3 (.int .i64 0) rfl
          have f63 := b_z H6 3
          have y64 := b_v H6 4 (.int .i64 0) rfl
          have f64 := b_z H6 4
          have y65 := b_v H6 5 (.int .i64 0) rfl
          have f65 := b_z H6 5
          go_wp2_with fail
          obtain ⟨q, qb⟩ := six_set rfl H6.out g6 HB.out (.int .i64 0) (.int .i64 0) (.int .i64 0) (.int .i64 0) (.int .i64 0) (.int .i64 0)
          exact bodyPost_ret (results_ct rfl _ _ b6 46 _ (0, 0) _ rfl q Tryz.underlying46 rfl (by kernel_rfl)) rfl ⟨rfl, qb⟩
       have yj := b_v Hj 0 (.int .i64 jz) rfl
       go_wp2_with fail
       refine HK.out _ _ ?_
       unfold dbO
       exact ⟨iz + 1, c, rfl, rfl, rfl, rfl, rfl, rfl, rfl, rfl, by have := HC.out; have := HJ.out; omega, HGd, H3, H4, H5, H6, H10, HB⟩
     have hi3 : iz = 3 := by omega
     have hc6 : c0 = 6 := by have := HC.out; omega
     subst hi3 hc6
     as_aux_lemma =>
      have y100 := b_v H10 0 (.int .i64 (Q (6 : Int).toNat 0)) rfl
      have y101 := b_v H10 1 (.int .i64 (Q (6 : Int).toNat 1)) rfl
      have y102 := b_v H10 2 (.int .i64 (Q (6 : Int).toNat 2)) rfl
      have y103 := b_v H10 3 (.int .i64 (Q (6 : Int).toNat 3)) rfl
      have y104 := b_v H10 4 (.int .i64 (Q (6 : Int).toNat 4)) rfl
      have y105 := b_v H10 5 (.int .i64 (Q (6 : Int).toNat 5)) rfl
      have y60 := b_v H6 0 (.int .i64 0) rfl
      have f60 := b_z H6 0
      have y61 := b_v H6 1 (.int .i64 0) rfl
      have f61 := b_z H6 1
      have y62 := b_v H6 2 (.int .i64 0) rfl
      have f62 := b_z H6 2
      have y63 := b_v H6 3 (.int .i64 0) rfl
      have f63 := b_z H6 3
      have y64 := b_v H6 4 (.int .i64 0) rfl
      have f64 := b_z H6 4
      have y65 := b_v H6 5 (.int .i64 0) rfl
      have f65 := b_z H6 5
      obtain ⟨rfl, rfl, rfl, rfl, rfl, rfl, rfl⟩ := HYES.out (fun q hq => HGd.out q hq)
      go_wp2_with fail
      obtain ⟨q, qb⟩ := six_set rfl H6.out g6 HB.out (.int .i64 (Q 6 0)) (.int .i64 (Q 6 1)) (.int .i64 (Q 6 2)) (.int .i64 (Q 6 3)) (.int .i64 (Q 6 4)) (.int .i64 (Q 6 5))
      exact bodyPost_ret (results_ct rfl _ _ b6 46 _ (0, 0) _ rfl q Tryz.underlying46 rfl (by kernel_rfl)) rfl ⟨rfl, qb⟩
 have z1 : (e0 == 0) = false := by simp [h0]
 have z2 : decide (e0 = 0) = false := decide_eq_false h0
 refine ⟨0, 0, 0, 0, 0, 0, 1, fun w hG => ?_⟩
 have HG := am hG
 clear hG
 go_enter Tryz.func76, Tryz.ntmps76
 go_upto_region 1 with fail
 obtain ⟨x3', x4', x5', x6', hB⟩ := blocks4 w #[p0, p1, p2, p3, p4, p5] #[k0, k1, k2] #[sp] #[(), (), (), (), (), ()] 46 26 2 46
 generalize (((w.alloc (.cells #[p0, p1, p2, p3, p4, p5] 46)).alloc (.cells #[k0, k1, k2] 26)).alloc (.cells #[sp] 2)).alloc (.cells #[(), (), (), (), (), ()] 46) = w1 at x3' x4' x5' x6' hB ⊢
 obtain ⟨b3, h3⟩ := e_x (w.heap.size)
 obtain ⟨b4, h4⟩ := e_x (w.heap.size + 1)
 obtain ⟨b5, h5⟩ := e_x (w.heap.size + 1 + 1)
 obtain ⟨b6, h6⟩ := e_x (w.heap.size + 1 + 1 + 1)
 have g3 : w.heap.size ≤ b3 := by omega
 have g4 : w.heap.size ≤ b4 := by omega
 have g5 : w.heap.size ≤ b5 := by omega
 have g6 : w.heap.size ≤ b6 := by omega
 have n3_4 : b3 ≠ b4 := by omega
 have n3_5 : b3 ≠ b5 := by omega
 have n3_6 : b3 ≠ b6 := by omega
 have n4_3 : b4 ≠ b3 := by omega
 have n4_5 : b4 ≠ b5 := by omega
 have n4_6 : b4 ≠ b6 := by omega
 have n5_3 : b5 ≠ b3 := by omega
 have n5_4 : b5 ≠ b4 := by omega
 have n5_6 : b5 ≠ b6 := by omega
 have n6_3 : b6 ≠ b3 := by omega
 have n6_4 : b6 ≠ b4 := by omega
 have n6_5 : b6 ≠ b5 := by omega
 rw [← h6, ← h5, ← h4, ← h3]
 rw [← h6] at x6'
 rw [← h5] at x5'
 rw [← h4] at x4'
 rw [← h3] at x3'
 have H3 := am x3'
 have H4 := am x4'
 have H5 := am x5'
 have H6 := am x6'
 have HB := am hB
 clear x3' x4' x5' x6' hB h3 h4 h5 h6
 have y30 := b_v H3 0 (.int .i64 p0) rfl
 have y31 := b_v H3 1 (.int .i64 p1) rfl
 have y32 := b_v H3 2 (.int .i64 p2) rfl
 have y33 := b_v H3 3 (.int .i64 p3) rfl
 have y34 := b_v H3 4 (.int .i64 p4) rfl
 have y35 := b_v H3 5 (.int .i64 p5) rfl
 go_wp2_with fail
 refine (HA.out w1 (HG.out.below HB.out)).mono ?_
 rintro e w2 ⟨rfl, hb⟩
 replace H3 := b_b H3 hb
 replace H4 := b_b H4 hb
 replace H5 := b_b H5 hb
 replace H6 := b_b H6 hb
 replace HB := b_s HB hb
 clear y30 y31 y32 y33 y34 y35
 clear hb
 go_upto_region 2 with fail
 replace H3 := am (blk_alloc H3.out (.cells #[n0, n1, n2, n3, n4, n5] 46))
 replace H4 := am (blk_alloc H4.out (.cells #[n0, n1, n2, n3, n4, n5] 46))
 replace H5 := am (blk_alloc H5.out (.cells #[n0, n1, n2, n3, n4, n5] 46))
 replace H6 := am (blk_alloc H6.out (.cells #[n0, n1, n2, n3, n4, n5] 46))
 replace HB := am (below_alloc HB.out (.cells #[n0, n1, n2, n3, n4, n5] 46))
 generalize w2.alloc (.cells #[n0, n1, n2, n3, n4, n5] 46) = w3 at H3 H4 H5 H6 HB ⊢
 generalize w2.heap.size = b8
 have y60 := b_v H6 0 (.int .i64 0) rfl
 have f60 := b_z H6 0
 have y61 := b_v H6 1 (.int .i64 0) rfl
 have f61 := b_z H6 1
 have y62 := b_v H6 2 (.int .i64 0) rfl
 have f62 := b_z H6 2
 have y63 := b_v H6 3 (.int .i64 0) rfl
 have f63 := b_z H6 3
 have y64 := b_v H6 4 (.int .i64 0) rfl
 have f64 := b_z H6 4
 have y65 := b_v H6 5 (.int .i64 0) rfl
 have f65 := b_z H6 5
 go_wp2_with fail
 obtain ⟨q, qb⟩ := six_set rfl H6.out g6 HB.out (.int .i64 0) (.int .i64 0) (.int .i64 0) (.int .i64 0) (.int .i64 0) (.int .i64 0)
 exact bodyPost_ret (results_ct rfl _ _ b6 46 _ (0, 0) _ rfl q Tryz.underlying46 rfl (by kernel_rfl)) rfl ⟨rfl, qb⟩
end Go.Proofs.YtpdahkgandaabaaGreatDoor.Ch
