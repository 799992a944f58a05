/- A part of the proof of TopAgain, where the package's tables hold what their initialisers lay. -/
import Derived.Shelf.Abstract
import Derived.Shelf.RegionOpen
import Derived.WalkKit
import Derived.LoopNIn
import Derived.LoopIn
import Derived.Outline
import Derived.Test.YtpdahkgandaabaaGreatDoorT01
import Derived.Test.YtpdahkgandaabaaGreatDoorT07
import Derived.Test.YtpdahkgandaabaaGreatDoorT09
namespace Go.Proofs.YtpdahkgandaabaaGreatDoor.Ch
open Go.RowKit Go.Shelf Go.Proofs.YtpdahkgandaabaaGreatDoorW.PrintWords Go.Proofs.YtpdahkgandaabaaGreatDoorW.PrintLast Go.Proofs.YtpdahkgandaabaaGreatDoorW.PrintMore Go.Proofs.YtpdahkgandaabaaGreatDoor.PTopNames Go.Proofs.YtpdahkgandaabaaGreatDoor.Al
set_option linter.unusedVariables false
set_option linter.unusedSimpArgs false
attribute [local go_sem] Oper.semAt_some
def Keeps (n : Nat) (S : Nat → Prop) (W W' : World) : Prop := Below n W W' ∧ ∀ b o, S b → W.heap[b]? = some o → o.isCells = true → W'.heap[b]? = some o
abbrev Wd := { q : Int × Int // U q.2 }
def encw (q : Wd) : Array Value := #[.agg #[.int .i64 q.1.1, .int .u64 q.1.2]]
def symA (m0 m1 m2 m3 m4 m5 : Int) : Array Value := #[.int .i64 m0, .int .i64 m1, .int .i64 m2, .int .i64 m3, .int .i64 m4, .int .i64 m5]
def rowv (i : Int) (a : Nat) : Int := [32768, 256, -1, 0, 32768, -256, 0, 0, 32768].getD (3 * i.toNat + a) 0
structure Held (w0 : World) (bi bj bt : Nat) (i j : Int) (C : Array Value) (W : World) : Prop where
 hi : W.heap[bi]? = some (.cells #[i] 3 (0, 0))
 hj : W.heap[bj]? = some (.cells #[j] 3 (0, 0))
 ht : W.heap[bt]? = some (.cells C 46 (0, 0))
 hb : Below w0.heap.size w0 W
theorem Held.step {w0 : World} {bi bj bt : Nat} {i j : Int} {C : Array Value} {W W' : World} (h : Held w0 bi bj bt i j C W) (hb : Below W.heap.size W W') : Held w0 bi bj bt i j C W' :=
 ⟨blk_below h.hi hb, blk_below h.hj hb, blk_below h.ht hb, below_step h.hb hb⟩
theorem Held.keeps {w0 : World} {bi bj bt : Nat} {i j : Int} {C : Array Value} {W W' : World} {S : Nat → Prop} (h : Held w0 bi bj bt i j C W) (hSi : S bi) (hSj : S bj) (hSt : S bt) (hk : Keeps w0.heap.size S W W') : Held w0 bi bj bt i j C W' :=
 ⟨hk.2 _ _ hSi h.hi rfl, hk.2 _ _ hSj h.hj rfl, hk.2 _ _ hSt h.ht rfl, h.hb.trans hk.1⟩
def IsTerms (m0 m1 m2 m3 m4 m5 i j : Int) (T : Nat → Wd) : Prop :=
 ∀ a b : Nat, a < 3 → b < 3 → ∃ z, Tells 118 #[sym m0 m1 m2 m3 m4 m5, .int .i64 (a : Int), .int .i64 (b : Int)] (Ch.two z 0) ∧ Tells 98 #[.int .i64 z, .int .i64 (wrap64 (rowv i a * rowv j b))] (wide (T (3 * a + b)).1.1 (T (3 * a + b)).1.2)
theorem upto_succ (T : Nat → Wd) (q : Nat) : (List.range (q + 1)).map T = (List.range q).map T ++ [T q] := by
 rw [List.range_succ, List.map_append]
 rfl
theorem index3 (x0 x1 x2 : Int) : (∀ w, (Instr.index 25 (.agg #[x0, x1, x2]) (.int .i64 0)).run Tryz.prog w = .ok (.int .i64 x0) w) ∧ (∀ w, (Instr.index 25 (.agg #[x0, x1, x2]) (.int .i64 1)).run Tryz.prog w = .ok (.int .i64 x1) w) ∧
  (∀ w, (Instr.index 25 (.agg #[x0, x1, x2]) (.int .i64 2)).run Tryz.prog w = .ok (.int .i64 x2) w) := ⟨fun _ => by kernel_rfl, fun _ => by kernel_rfl, fun _ => by kernel_rfl⟩
theorem rows3 {W : World} (hG : G W) (i : Int) (hi : i = 0 ∨ i = 1 ∨ i = 2) : W.cell? ⟨2, i.toNat * 3, none⟩ = some (.int .i64 (rowv i 0)) ∧ W.cell? ⟨2, i.toNat * 3 + 1, none⟩ = some (.int .i64 (rowv i 1)) ∧ W.cell? ⟨2, i.toNat * 3 + 2, none⟩ = some (.int .i64 (rowv i 2)) := by
 rcases hi with rfl | rfl | rfl
 ·
  exact ⟨hG.rows 0, hG.rows 1, hG.rows 2⟩
 ·
  exact ⟨hG.rows 3, hG.rows 4, hG.rows 5⟩
 exact ⟨hG.rows 6, hG.rows 7, hG.rows 8⟩
set_option maxRecDepth 100000 in
set_option maxHeartbeats 4000000 in
theorem terms1_in (n : Nat) (hn : 1 ≤ n) (i j : Int) (hi : i = 0 ∨ i = 1 ∨ i = 2) (hj : j = 0 ∨ j = 1 ∨ j = 2) (m0 m1 m2 m3 m4 m5 : Int) (T : Nat → Wd) (hT : IsTerms m0 m1 m2 m3 m4 m5 i j T)
  (l bi bj bt : Nat) (S : Nat → Prop) (w0 W : World) (hG : G w0) (hSi : S bi) (hSj : S bj) (hSt : S bt) (hH : Held w0 bi bj bt i j (symA m0 m1 m2 m3 m4 m5) W)
  (J : List Wd → World → Prop) (hJ : AbidesFrom W.heap.size J)
  (hY : ∀ pre x W1, J pre W1 → pre.length < 9 → YieldAt Fence.wide (n - 1) Tryz.prog l (encw x) W1 fun e W' => e = .returned (.bool true) ∧ J (pre ++ [x]) W' ∧ Keeps w0.heap.size S W1 W')
  (h0 : J [] W) :
  CallsIn Fence.wide n Tryz.prog 154 #[.func (.yield l) #[] #[], .pointer (some ⟨bi, 0, none⟩), .pointer (some ⟨bj, 0, none⟩), .pointer (some ⟨bt, 0, none⟩)] W fun e W' => (∃ v, e = .returned v) ∧ ∃ xs, xs = (List.range 9).map T ∧ J xs W' := by
 have HG := am hG
 have HY := am hY
 have HJ := am hJ
 have HT := am hT
 have HH := am hH
 have HJ0 : Aside0 (J ((List.range 0).map T) W) := ⟨h0⟩
 clear hG hY hJ hT hH h0
 have xi := bcv HH.out.hi 0 (.int .i64 i) rfl
 refine callsIn_of_wp Tryz.func154 rfl trivial ?_ rfl
 simp only [Tryz.ntmps154, List.size_toArray, List.length_cons, List.length_nil, Nat.reduceAdd, Nat.reduceSub, Array.replicate_succ, Array.replicate_zero, List.push_toArray, List.append_toArray, List.nil_append, List.cons_append]
 have p0 : 0 ≤ i := by omega
 have p1 : i < 3 := by omega
 obtain ⟨r0, r1, r2⟩ := rows3 (HG.out.below HH.out.hb) i hi
 clear hi
 unfold symA at HH
 obtain ⟨i0, i1, i2⟩ := index3 (rowv i 0) (rowv i 1) (rowv i 2)
 obtain ⟨j0, j1, j2⟩ := index3 (rowv j 0) (rowv j 1) (rowv j 2)
 gi_wp2
 gi_loopw [14] (fun i' wr => ∃ (a : Nat) (y : Int), y = a ∧ a ≤ 3 ∧ i' = .int .i64 y ∧ Aside0 (J ((List.range (3 * a)).map T) wr) ∧ Aside0 (Held w0 bi bj bt i j #[m0, m1, m2, m3, m4, m5] wr)) (fun i _ => 3 - (intOf i).toNat)
 case atStart => exact ⟨0, 0, rfl, by omega, rfl, HJ0, HH⟩
 case round =>
  clear HJ0 HH r0 r1 r2 xi
  obtain ⟨a, y, hy0, ha, rfl, HJ1, HH1⟩ := hrel
  have xj := bcv HH1.out.hj 0 (.int .i64 j) rfl
  have q0 : 0 ≤ j := by omega
  have q1 : j < 3 := by omega
  obtain ⟨r0, r1, r2⟩ := rows3 (HG.out.below HH1.out.hb) j hj
  obtain rfl | rfl | rfl | rfl : a = 0 ∨ a = 1 ∨ a = 2 ∨ a = 3 := by omega
  ·
   obtain rfl : y = 0 := hy0
   gi_wp2
   gi_loopw [21] (fun i' wr => ∃ (b : Nat) (z : Int), z = b ∧ b ≤ 3 ∧ i' = .int .i64 z ∧ Aside0 (J ((List.range (0 + b)).map T) wr) ∧ Aside0 (Held w0 bi bj bt i j #[m0, m1, m2, m3, m4, m5] wr)) (fun i _ => 3 - (intOf i).toNat)
   case atStart => exact ⟨0, 0, rfl, by omega, rfl, HJ1, HH1⟩
   case round =>
    clear HJ1 HH1 r0 r1 r2 xj
    obtain ⟨b, z, hz, hb, rfl, HJ2, HH2⟩ := hrel
    have xt0 := bcv HH2.out.ht 0 (.int .i64 m0) rfl
    have xt1 := bcv HH2.out.ht 1 (.int .i64 m1) rfl
    have xt2 := bcv HH2.out.ht 2 (.int .i64 m2) rfl
    have xt3 := bcv HH2.out.ht 3 (.int .i64 m3) rfl
    have xt4 := bcv HH2.out.ht 4 (.int .i64 m4) rfl
    have xt5 := bcv HH2.out.ht 5 (.int .i64 m5) rfl
    obtain rfl | rfl | rfl | rfl : b = 0 ∨ b = 1 ∨ b = 2 ∨ b = 3 := by omega
    ·
     obtain rfl : z = 0 := hz
     obtain ⟨z, hz1, hz2⟩ := HT.out 0 0 (by decide) (by decide)
     have HA1 := am hz1
     have HA2 := am hz2
     clear hz1 hz2
     unfold sym Ch.two at HA1
     unfold wide at HA2
     gi_wp2_with fail
     refine ⟨trivial, (callsIn_wide.2 (HA1.out wr (HG.out.below HH2.out.hb))).mono ?_⟩
     rintro e w1 ⟨rfl, hb1⟩
     replace HJ2 := am (HJ.out _ wr w1 none HJ2.out (grown_of_below hb1 none) (fun r e => by cases e))
     replace HH2 := am (HH2.out.step hb1)
     clear hb1
     gi_wp2_with fail
     refine ⟨trivial, (callsIn_wide.2 (HA2.out w1 (HG.out.below HH2.out.hb))).mono ?_⟩
     rintro e w2 ⟨rfl, hb1⟩
     replace HJ2 := am (HJ.out _ w1 w2 none HJ2.out (grown_of_below hb1 none) (fun r e => by cases e))
     replace HH2 := am (HH2.out.step hb1)
     clear hb1
     obtain ⟨fn, tmps, assign, body, hy, hround⟩ := HY.out _ (T 0) _ HJ2.out (by simp)
     dsimp only [encw] at hy
     have HRO := am hround
     clear hround
     gi_wp2
     refine HRO.out.mono ?_
     rintro e w3 ⟨rfl, hJ3, hk3⟩
     have HJ3 := am (show J ((List.range 1).map T) w3 by rw [show (1 : Nat) = 0 + 1 from rfl, upto_succ]; exact hJ3)
     replace HH2 := am (HH2.out.keeps hSi hSj hSt hk3)
     clear hJ3 hk3 HRO HJ2
     gi_wp2
     go_roundw
     case rel => exact ⟨1, _, rfl, by omega, rfl, HJ3, HH2⟩
     case measure => simp [intOf]
    ·
     obtain rfl : z = 1 := hz
     obtain ⟨z, hz1, hz2⟩ := HT.out 0 1 (by decide) (by decide)
     have HA1 := am hz1
     have HA2 := am hz2
     clear hz1 hz2
     unfold sym Ch.two at HA1
     unfold wide at HA2
     gi_wp2_with fail
     refine ⟨trivial, (callsIn_wide.2 (HA1.out wr (HG.out.below HH2.out.hb))).mono ?_⟩
     rintro e w1 ⟨rfl, hb1⟩
     replace HJ2 := am (HJ.out _ wr w1 none HJ2.out (grown_of_below hb1 none) (fun r e => by cases e))
     replace HH2 := am (HH2.out.step hb1)
     clear hb1
     gi_wp2_with fail
     refine ⟨trivial, (callsIn_wide.2 (HA2.out w1 (HG.out.below HH2.out.hb))).mono ?_⟩
     rintro e w2 ⟨rfl, hb1⟩
     replace HJ2 := am (HJ.out _ w1 w2 none HJ2.out (grown_of_below hb1 none) (fun r e => by cases e))
     replace HH2 := am (HH2.out.step hb1)
     clear hb1
     obtain ⟨fn, tmps, assign, body, hy, hround⟩ := HY.out _ (T 1) _ HJ2.out (by simp)
     dsimp only [encw] at hy
     have HRO := am hround
     clear hround
     gi_wp2
     refine HRO.out.mono ?_
     rintro e w3 ⟨rfl, hJ3, hk3⟩
     have HJ3 := am (show J ((List.range 2).map T) w3 by rw [show (2 : Nat) = 1 + 1 from rfl, upto_succ]; exact hJ3)
     replace HH2 := am (HH2.out.keeps hSi hSj hSt hk3)
     clear hJ3 hk3 HRO HJ2
     gi_wp2
     go_roundw
     case rel => exact ⟨2, _, rfl, by omega, rfl, HJ3, HH2⟩
     case measure => simp [intOf]
    ·
     obtain rfl : z = 2 := hz
     obtain ⟨z, hz1, hz2⟩ := HT.out 0 2 (by decide) (by decide)
     have HA1 := am hz1
     have HA2 := am hz2
     clear hz1 hz2
     unfold sym Ch.two at HA1
     unfold wide at HA2
     gi_wp2_with fail
     refine ⟨trivial, (callsIn_wide.2 (HA1.out wr (HG.out.below HH2.out.hb))).mono ?_⟩
     rintro e w1 ⟨rfl, hb1⟩
     replace HJ2 := am (HJ.out _ wr w1 none HJ2.out (grown_of_below hb1 none) (fun r e => by cases e))
     replace HH2 := am (HH2.out.step hb1)
     clear hb1
     gi_wp2_with fail
     refine ⟨trivial, (callsIn_wide.2 (HA2.out w1 (HG.out.below HH2.out.hb))).mono ?_⟩
     rintro e w2 ⟨rfl, hb1⟩
     replace HJ2 := am (HJ.out _ w1 w2 none HJ2.out (grown_of_below hb1 none) (fun r e => by cases e))
     replace HH2 := am (HH2.out.step hb1)
     clear hb1
     obtain ⟨fn, tmps, assign, body, hy, hround⟩ := HY.out _ (T 2) _ HJ2.out (by simp)
     dsimp only [encw] at hy
     have HRO := am hround
     clear hround
     gi_wp2
     refine HRO.out.mono ?_
     rintro e w3 ⟨rfl, hJ3, hk3⟩
     have HJ3 := am (show J ((List.range 3).map T) w3 by rw [show (3 : Nat) = 2 + 1 from rfl, upto_succ]; exact hJ3)
     replace HH2 := am (HH2.out.keeps hSi hSj hSt hk3)
     clear hJ3 hk3 HRO HJ2
     gi_wp2
     go_roundw
     case rel => exact ⟨3, _, rfl, by omega, rfl, HJ3, HH2⟩
     case measure => simp [intOf]
    obtain rfl : z = 3 := hz
    gi_wp2
    go_roundw
    case rel => exact ⟨1, _, rfl, by omega, rfl, HJ2, HH2⟩
    case measure => simp [intOf]
  ·
   obtain rfl : y = 1 := hy0
   gi_wp2
   gi_loopw [21] (fun i' wr => ∃ (b : Nat) (z : Int), z = b ∧ b ≤ 3 ∧ i' = .int .i64 z ∧ Aside0 (J ((List.range (3 + b)).map T) wr) ∧ Aside0 (Held w0 bi bj bt i j #[m0, m1, m2, m3, m4, m5] wr)) (fun i _ => 3 - (intOf i).toNat)
   case atStart => exact ⟨0, 0, rfl, by omega, rfl, HJ1, HH1⟩
   case round =>
    clear HJ1 HH1 r0 r1 r2 xj
    obtain ⟨b, z, hz, hb, rfl, HJ2, HH2⟩ := hrel
    have xt0 := bcv HH2.out.ht 0 (.int .i64 m0) rfl
    have xt1 := bcv HH2.out.ht 1 (.int .i64 m1) rfl
    have xt2 := bcv HH2.out.ht 2 (.int .i64 m2) rfl
    have xt3 := bcv HH2.out.ht 3 (.int .i64 m3) rfl
    have xt4 := bcv HH2.out.ht 4 (.int .i64 m4) rfl
    have xt5 := bcv HH2.out.ht 5 (.int .i64 m5) rfl
    obtain rfl | rfl | rfl | rfl : b = 0 ∨ b = 1 ∨ b = 2 ∨ b = 3 := by omega
    ·
     obtain rfl : z = 0 := hz
     obtain ⟨z, hz1, hz2⟩ := HT.out 1 0 (by decide) (by decide)
     have HA1 := am hz1
     have HA2 := am hz2
     clear hz1 hz2
     unfold sym Ch.two at HA1
     unfold wide at HA2
     gi_wp2_with fail
     refine ⟨trivial, (callsIn_wide.2 (HA1.out wr (HG.out.below HH2.out.hb))).mono ?_⟩
     rintro e w1 ⟨rfl, hb1⟩
     replace HJ2 := am (HJ.out _ wr w1 none HJ2.out (grown_of_below hb1 none) (fun r e => by cases e))
     replace HH2 := am (HH2.out.step hb1)
     clear hb1
     gi_wp2_with fail
     refine ⟨trivial, (callsIn_wide.2 (HA2.out w1 (HG.out.below HH2.out.hb))).mono ?_⟩
     rintro e w2 ⟨rfl, hb1⟩
     replace HJ2 := am (HJ.out _ w1 w2 none HJ2.out (grown_of_below hb1 none) (fun r e => by cases e))
     replace HH2 := am (HH2.out.step hb1)
     clear hb1
     obtain ⟨fn, tmps, assign, body, hy, hround⟩ := HY.out _ (T 3) _ HJ2.out (by simp)
     dsimp only [encw] at hy
     have HRO := am hround
     clear hround
     gi_wp2
     refine HRO.out.mono ?_
     rintro e w3 ⟨rfl, hJ3, hk3⟩
     have HJ3 := am (show J ((List.range 4).map T) w3 by rw [show (4 : Nat) = 3 + 1 from rfl, upto_succ]; exact hJ3)
     replace HH2 := am (HH2.out.keeps hSi hSj hSt hk3)
     clear hJ3 hk3 HRO HJ2
     gi_wp2
     go_roundw
     case rel => exact ⟨1, _, rfl, by omega, rfl, HJ3, HH2⟩
     case measure => simp [intOf]
    ·
     obtain rfl : z = 1 := hz
     obtain ⟨z, hz1, hz2⟩ := HT.out 1 1 (by decide) (by decide)
     have HA1 := am hz1
     have HA2 := am hz2
     clear hz1 hz2
     unfold sym Ch.two at HA1
     unfold wide at HA2
     gi_wp2_with fail
     refine ⟨trivial, (callsIn_wide.2 (HA1.out wr (HG.out.below HH2.out.hb))).mono ?_⟩
     rintro e w1 ⟨rfl, hb1⟩
     replace HJ2 := am (HJ.out _ wr w1 none HJ2.out (grown_of_below hb1 none) (fun r e => by cases e))
     replace HH2 := am (HH2.out.step hb1)
     clear hb1
     gi_wp2_with fail
     refine ⟨trivial, (callsIn_wide.2 (HA2.out w1 (HG.out.below HH2.out.hb))).mono ?_⟩
     rintro e w2 ⟨rfl, hb1⟩
     replace HJ2 := am (HJ.out _ w1 w2 none HJ2.out (grown_of_below hb1 none) (fun r e => by cases e))
     replace HH2 := am (HH2.out.step hb1)
     clear hb1
     obtain ⟨fn, tmps, assign, body, hy, hround⟩ := HY.out _ (T 4) _ HJ2.out (by simp)
     dsimp only [encw] at hy
     have HRO := am hround
     clear hround
     gi_wp2
     refine HRO.out.mono ?_
     rintro e w3 ⟨rfl, hJ3, hk3⟩
     have HJ3 := am (show J ((List.range 5).map T) w3 by rw [show (5 : Nat) = 4 + 1 from rfl, upto_succ]; exact hJ3)
     replace HH2 := am (HH2.out.keeps hSi hSj hSt hk3)
     clear hJ3 hk3 HRO HJ2
     gi_wp2
     go_roundw
     case rel => exact ⟨2, _, rfl, by omega, rfl, HJ3, HH2⟩
     case measure => simp [intOf]
    ·
     obtain rfl : z = 2 := hz
     obtain ⟨z, hz1, hz2⟩ := HT.out 1 2 (by decide) (by decide)
     have HA1 := am hz1
     have HA2 := am hz2
     clear hz1 hz2
     unfold sym Ch.two at HA1
     unfold wide at HA2
     gi_wp2_with fail
     refine ⟨trivial, (callsIn_wide.2 (HA1.out wr (HG.out.below HH2.out.hb))).mono ?_⟩
     rintro e w1 ⟨rfl, hb1⟩
     replace HJ2 := am (HJ.out _ wr w1 none HJ2.out (grown_of_below hb1 none) (fun r e => by cases e))
     replace HH2 := am (HH2.out.step hb1)
     clear hb1
     gi_wp2_with fail
     refine ⟨trivial, (callsIn_wide.2 (HA2.out w1 (HG.out.below HH2.out.hb))).mono ?_⟩
     rintro e w2 ⟨rfl, hb1⟩
     replace HJ2 := am (HJ.out _ w1 w2 none HJ2.out (grown_of_below hb1 none) (fun r e => by cases e))
     replace HH2 := am (HH2.out.step hb1)
     clear hb1
     obtain ⟨fn, tmps, assign, body, hy, hround⟩ := HY.out _ (T 5) _ HJ2.out (by simp)
     dsimp only [encw] at hy
     have HRO := am hround
     clear hround
     gi_wp2
     refine HRO.out.mono ?_
     rintro e w3 ⟨rfl, hJ3, hk3⟩
     have HJ3 := am (show J ((List.range 6).map T) w3 by rw [show (6 : Nat) = 5 + 1 from rfl, upto_succ]; exact hJ3)
     replace HH2 := am (HH2.out.keeps hSi hSj hSt hk3)
     clear hJ3 hk3 HRO HJ2
     gi_wp2
     go_roundw
     case rel => exact ⟨3, _, rfl, by omega, rfl, HJ3, HH2⟩
     case measure => simp [intOf]
    obtain rfl : z = 3 := hz
    gi_wp2
    go_roundw
    case rel => exact ⟨2, _, rfl, by omega, rfl, HJ2, HH2⟩
    case measure => simp [intOf]
  ·
   obtain rfl : y = 2 := hy0
   gi_wp2
   gi_loopw [21] (fun i' wr => ∃ (b : Nat) (z : Int), z = b ∧ b ≤ 3 ∧ i' = .int .i64 z ∧ Aside0 (J ((List.range (6 + b)).map T) wr) ∧ Aside0 (Held w0 bi bj bt i j #[m0, m1, m2, m3, m4, m5] wr)) (fun i _ => 3 - (intOf i).toNat)
   case atStart => exact ⟨0, 0, rfl, by omega, rfl, HJ1, HH1⟩
   case round =>
    clear HJ1 HH1 r0 r1 r2 xj
    obtain ⟨b, z, hz, hb, rfl, HJ2, HH2⟩ := hrel
    have xt0 := bcv HH2.out.ht 0 (.int .i64 m0) rfl
    have xt1 := bcv HH2.out.ht 1 (.int .i64 m1) rfl
    have xt2 := bcv HH2.out.ht 2 (.int .i64 m2) rfl
    have xt3 := bcv HH2.out.ht 3 (.int .i64 m3) rfl
    have xt4 := bcv HH2.out.ht 4 (.int .i64 m4) rfl
    have xt5 := bcv HH2.out.ht 5 (.int .i64 m5) rfl
    obtain rfl | rfl | rfl | rfl : b = 0 ∨ b = 1 ∨ b = 2 ∨ b = 3 := by omega
    ·
     obtain rfl : z = 0 := hz
     obtain ⟨z, hz1, hz2⟩ := HT.out 2 0 (by decide) (by decide)
     have HA1 := am hz1
     have HA2 := am hz2
     clear hz1 hz2
     unfold sym Ch.two at HA1
     unfold wide at HA2
     gi_wp2_with fail
     refine ⟨trivial, (callsIn_wide.2 (HA1.out wr (HG.out.below HH2.out.hb))).mono ?_⟩
     rintro e w1 ⟨rfl, hb1⟩
     replace HJ2 := am (HJ.out _ wr w1 none HJ2.out (grown_of_below hb1 none) (fun r e => by cases e))
     replace HH2 := am (HH2.out.step hb1)
     clear hb1
     gi_wp2_with fail
     refine ⟨trivial, (callsIn_wide.2 (HA2.out w1 (HG.out.below HH2.out.hb))).mono ?_⟩
     rintro e w2 ⟨rfl, hb1⟩
     replace HJ2 := am (HJ.out _ w1 w2 none HJ2.out (grown_of_below hb1 none) (fun r e => by cases e))
     replace HH2 := am (HH2.out.step hb1)
     clear hb1
     obtain ⟨fn, tmps, assign, body, hy, hround⟩ := HY.out _ (T 6) _ HJ2.out (by simp)
     dsimp only [encw] at hy
     have HRO := am hround
     clear hround
     gi_wp2
     refine HRO.out.mono ?_
     rintro e w3 ⟨rfl, hJ3, hk3⟩
     have HJ3 := am (show J ((List.range 7).map T) w3 by rw [show (7 : Nat) = 6 + 1 from rfl, upto_succ]; exact hJ3)
     replace HH2 := am (HH2.out.keeps hSi hSj hSt hk3)
     clear hJ3 hk3 HRO HJ2
     gi_wp2
     go_roundw
     case rel => exact ⟨1, _, rfl, by omega, rfl, HJ3, HH2⟩
     case measure => simp [intOf]
    ·
     obtain rfl : z = 1 := hz
     obtain ⟨z, hz1, hz2⟩ := HT.out 2 1 (by decide) (by decide)
     have HA1 := am hz1
     have HA2 := am hz2
     clear hz1 hz2
     unfold sym Ch.two at HA1
     unfold wide at HA2
     gi_wp2_with fail
     refine ⟨trivial, (callsIn_wide.2 (HA1.out wr (HG.out.below HH2.out.hb))).mono ?_⟩
     rintro e w1 ⟨rfl, hb1⟩
     replace HJ2 := am (HJ.out _ wr w1 none HJ2.out (grown_of_below hb1 none) (fun r e => by cases e))
     replace HH2 := am (HH2.out.step hb1)
     clear hb1
     gi_wp2_with fail
     refine ⟨trivial, (callsIn_wide.2 (HA2.out w1 (HG.out.below HH2.out.hb))).mono ?_⟩
     rintro e w2 ⟨rfl, hb1⟩
     replace HJ2 := am (HJ.out _ w1 w2 none HJ2.out (grown_of_below hb1 none) (fun r e => by cases e))
     replace HH2 := am (HH2.out.step hb1)
     clear hb1
     obtain ⟨fn, tmps, assign, body, hy, hround⟩ := HY.out _ (T 7) _ HJ2.out (by simp)
     dsimp only [encw] at hy
     have HRO := am hround
     clear hround
     gi_wp2
     refine HRO.out.mono ?_
     rintro e w3 ⟨rfl, hJ3, hk3⟩
     have HJ3 := am (show J ((List.range 8).map T) w3 by rw [show (8 : Nat) = 7 + 1 from rfl, upto_succ]; exact hJ3)
     replace HH2 := am (HH2.out.keeps hSi hSj hSt hk3)
     clear hJ3 hk3 HRO HJ2
     gi_wp2
     go_roundw
     case rel => exact ⟨2, _, rfl, by omega, rfl, HJ3, HH2⟩
     case measure => simp [intOf]
    ·
     obtain rfl : z = 2 := hz
     obtain ⟨z, hz1, hz2⟩ := HT.out 2 2 (by decide) (by decide)
     have HA1 := am hz1
     have HA2 := am hz2
     clear hz1 hz2
     unfold sym Ch.two at HA1
     unfold wide at HA2
     gi_wp2_with fail
     refine ⟨trivial, (callsIn_wide.2 (HA1.out wr (HG.out.below HH2.out.hb))).mono ?_⟩
     rintro e w1 ⟨rfl, hb1⟩
     replace HJ2 := am (HJ.out _ wr w1 none HJ2.out (grown_of_below hb1 none) (fun r e => by cases e))
     replace HH2 := am (HH2.out.step hb1)
     clear hb1
     gi_wp2_with fail
     refine ⟨trivial, (callsIn_wide.2 (HA2.out w1 (HG.out.below HH2.out.hb))).mono ?_⟩
     rintro e w2 ⟨rfl, hb1⟩
     replace HJ2 := am (HJ.out _ w1 w2 none HJ2.out (grown_of_below hb1 none) (fun r e => by cases e))
     replace HH2 := am (HH2.out.step hb1)
     clear hb1
     obtain ⟨fn, tmps, assign, body, hy, hround⟩ := HY.out _ (T 8) _ HJ2.out (by simp)
     dsimp only [encw] at hy
     have HRO := am hround
     clear hround
     gi_wp2
     refine HRO.out.mono ?_
     rintro e w3 ⟨rfl, hJ3, hk3⟩
     have HJ3 := am (show J ((List.range 9).map T) w3 by rw [show (9 : Nat) = 8 + 1 from rfl, upto_succ]; exact hJ3)
     replace HH2 := am (HH2.out.keeps hSi hSj hSt hk3)
     clear hJ3 hk3 HRO HJ2
     gi_wp2
     go_roundw
     case rel => exact ⟨3, _, rfl, by omega, rfl, HJ3, HH2⟩
     case measure => simp [intOf]
    obtain rfl : z = 3 := hz
    gi_wp2
    go_roundw
    case rel => exact ⟨3, _, rfl, by omega, rfl, HJ2, HH2⟩
    case measure => simp [intOf]
  obtain rfl : y = 3 := hy0
  gi_wp2
  go_end0
  exact ⟨⟨_, rfl⟩, _, rfl, HJ1.out⟩
end Go.Proofs.YtpdahkgandaabaaGreatDoor.Ch
namespace Go.Proofs.YtpdahkgandaabaaGreatDoor.Ch
open Go.RowKit Go.Shelf Go.Proofs.YtpdahkgandaabaaGreatDoorW.PrintWords Go.Proofs.YtpdahkgandaabaaGreatDoorW.PrintLast Go.Proofs.YtpdahkgandaabaaGreatDoorW.PrintMore Go.Proofs.YtpdahkgandaabaaGreatDoor.PTopNames Go.Proofs.YtpdahkgandaabaaGreatDoor.Al
set_option linter.unusedVariables false
set_option linter.unusedSimpArgs false
theorem pick {α β : Type} {R : α → β → Prop} (h : ∀ a, ∃ b, R a b) : ∃ f : α → β, ∀ a, R a (f a) := ⟨fun a => Classical.choose (h a), fun a => Classical.choose_spec (h a)⟩
theorem terms_ex (m0 m1 m2 m3 m4 m5 i j : Int) : ∃ T : Nat → Wd, IsTerms m0 m1 m2 m3 m4 m5 i j T := by
 have h : ∀ q : Nat, ∃ t : Wd, q < 9 → ∃ z, Tells 118 #[sym m0 m1 m2 m3 m4 m5, .int .i64 ((q / 3 : Nat) : Int), .int .i64 ((q % 3 : Nat) : Int)] (Ch.two z 0) ∧ Tells 98 #[.int .i64 z, .int .i64 (wrap64 (rowv i (q / 3) * rowv j (q % 3)))] (wide t.1.1 t.1.2) := by
  intro q
  by_cases hq : q < 9
  ·
   obtain ⟨z, hz⟩ := at_tells m0 m1 m2 m3 m4 m5 ((q / 3 : Nat) : Int) ((q % 3 : Nat) : Int) (by omega) (by omega)
   obtain ⟨a, b, hu, ht⟩ := mul_tells z (wrap64 (rowv i (q / 3) * rowv j (q % 3)))
   exact ⟨⟨(a, b), hu⟩, fun _ => ⟨z, hz, ht⟩⟩
  exact ⟨⟨(0, 0), by simp [U]⟩, fun h => absurd h hq⟩
 obtain ⟨T, hT⟩ := pick h
 refine ⟨T, fun a b ha hb => ?_⟩
 obtain ⟨z, h1, h2⟩ := hT (3 * a + b) (by omega)
 rw [show (3 * a + b) / 3 = a by omega, show (3 * a + b) % 3 = b by omega] at h1 h2
 exact ⟨z, h1, h2⟩
theorem addw_ex : ∃ f : Wd × Wd → Wd, ∀ q : Wd × Wd, ∃ e, Tells 130 #[wide q.1.1.1 q.1.1.2, wide q.2.1.1 q.2.1.2] (.tuple #[wide (f q).1.1 (f q).1.2, .int .i64 e]) :=
 pick (R := fun (q : Wd × Wd) (r : Wd) => ∃ e, Tells 130 #[wide q.1.1.1 q.1.1.2, wide q.2.1.1 q.2.1.2] (.tuple #[wide r.1.1 r.1.2, .int .i64 e])) fun q => by
  obtain ⟨h, l, e, hu, ht⟩ := wadd_tells q.1.1.1 q.1.1.2 q.2.1.1 q.2.1.2 q.1.2 q.2.2
  exact ⟨⟨(h, l), hu⟩, e, ht⟩
noncomputable def addw (a b : Wd) : Wd := Classical.choose addw_ex (a, b)
theorem addw_tells (a b : Wd) : ∃ e, Tells 130 #[wide a.1.1 a.1.2, wide b.1.1 b.1.2] (.tuple #[wide (addw a b).1.1 (addw a b).1.2, .int .i64 e]) := Classical.choose_spec addw_ex (a, b)
def z0 : Wd := ⟨(0, 0), by simp [U]⟩
noncomputable def foldw (l : List Wd) : Wd := l.foldl addw z0
theorem foldw_snoc (l : List Wd) (x : Wd) : foldw (l ++ [x]) = addw (foldw l) x := by simp [foldw]
def outV (F : Nat → Wd) (c : Nat) (g : Wd) (e : Nat) : Wd := if e < c then F e else if e = c then g else z0
def outA (V : Nat → Wd) : Array Value := #[.int .i64 (V 0).1.1, .int .u64 (V 0).1.2, .int .i64 (V 1).1.1, .int .u64 (V 1).1.2, .int .i64 (V 2).1.1, .int .u64 (V 2).1.2, .int .i64 (V 3).1.1, .int .u64 (V 3).1.2, .int .i64 (V 4).1.1, .int .u64 (V 4).1.2, .int .i64 (V 5).1.1, .int .u64 (V 5).1.2]
theorem outV_next (F : Nat → Wd) (c : Nat) : outV F c (F c) = outV F (c + 1) z0 := by
 funext e
 unfold outV
 by_cases h1 : e < c
 ·
  simp [h1, show e < c + 1 by omega]
 by_cases h2 : e = c
 ·
  simp [h2]
 simp [h1, h2, show ¬ e < c + 1 by omega]
theorem outV_0 (F : Nat → Wd) : outV F 0 z0 = fun _ => z0 := by
 funext e
 unfold outV
 simp
theorem out_get {W : World} {b : Nat} {F : Nat → Wd} {g : Wd} {c : Int} (h0 : 0 ≤ c) (h1 : c < 6) (h : W.heap[b]? = some (.cells (outA (outV F c.toNat g)) 143 (0, 0))) :
  W.cell? ⟨b, c.toNat * 2, none⟩ = some (.int .i64 g.1.1) ∧ W.cell? ⟨b, c.toNat * 2 + 1, none⟩ = some (.int .u64 g.1.2) ∧ W.frozen? ⟨b, c.toNat * 2, none⟩ = false ∧ W.frozen? ⟨b, c.toNat * 2 + 1, none⟩ = false := by
 refine ⟨?_, ?_, bfz h _, bfz h _⟩
 ·
  refine (blk_cell h _).trans ?_
  obtain rfl | rfl | rfl | rfl | rfl | rfl : c = 0 ∨ c = 1 ∨ c = 2 ∨ c = 3 ∨ c = 4 ∨ c = 5 := by omega
  all_goals simp [outA, outV]
 refine (blk_cell h _).trans ?_
 obtain rfl | rfl | rfl | rfl | rfl | rfl : c = 0 ∨ c = 1 ∨ c = 2 ∨ c = 3 ∨ c = 4 ∨ c = 5 := by omega
 all_goals simp [outA, outV]
theorem out_set (F : Nat → Wd) (g g' : Wd) {c : Int} (h0 : 0 ≤ c) (h1 : c < 6) :
  ((outA (outV F c.toNat g)).setIfInBounds (c.toNat * 2) (.int .i64 g'.1.1)).setIfInBounds (c.toNat * 2 + 1) (.int .u64 g'.1.2) = outA (outV F c.toNat g') := by
 obtain rfl | rfl | rfl | rfl | rfl | rfl : c = 0 ∨ c = 1 ∨ c = 2 ∨ c = 3 ∨ c = 4 ∨ c = 5 := by omega
 all_goals simp [outA, outV]
structure Ow (w : World) (b1 b2 b4 b5 : Nat) (C1 C2 C4 : Array Value) (c : Int) (ds : List Deferred) (B : Nat) (W : World) : Prop where
 h1 : W.heap[b1]? = some (.cells C1 46 (0, 0))
 h2 : W.heap[b2]? = some (.cells C2 143 (0, 0))
 h4 : W.heap[b4]? = some (.cells C4 143 (0, 0))
 h5 : W.heap[b5]? = some (.cells #[c] 3 (0, 0))
 hm : Marks w.heap.size ds B W
 hb : Below w.heap.size w W
section
variable {w W W' : World} {b1 b2 b4 b5 B : Nat} {C1 C2 C4 : Array Value} {c : Int} {ds : List Deferred}
theorem Ow.below (h : Ow w b1 b2 b4 b5 C1 C2 C4 c ds B W) (hb : Below W.heap.size W W') : Ow w b1 b2 b4 b5 C1 C2 C4 c ds B W' :=
 ⟨blk_below h.h1 hb, blk_below h.h2 hb, blk_below h.h4 hb, blk_below h.h5 hb, h.hm.below hb, below_step h.hb hb⟩
theorem row_ne {X : World} {k : Nat} {C : Array Value} {t : TypeId} {row : Option Nat} (hk : X.heap[k]? = some (.cells C t (0, 0))) (hr : ∀ r, row = some r → ∃ o : Obj, X.heap[r]? = some o ∧ o.isCells = false) : some k ≠ row := by
 rintro rfl
 obtain ⟨o, ho, hc⟩ := hr k rfl
 rw [hk] at ho
 injection ho with ho
 rw [← ho] at hc
 cases hc
theorem Ow.grown (h : Ow w b1 b2 b4 b5 C1 C2 C4 c ds B W) {row : Option Nat} (hg : W.grownBy W' row) {B' : Nat} (hB : B ≤ B') (hB2 : w.heap.size ≤ B') (hr : ∀ r, row = some r → B' ≤ r ∧ ∃ o : Obj, W.heap[r]? = some o ∧ o.isCells = false) : Ow w b1 b2 b4 b5 C1 C2 C4 c ds B W' :=
 ⟨blk_grown h.h1 hg (row_ne h.h1 fun r e => (hr r e).2), blk_grown h.h2 hg (row_ne h.h2 fun r e => (hr r e).2), blk_grown h.h4 hg (row_ne h.h4 fun r e => (hr r e).2), blk_grown h.h5 hg (row_ne h.h5 fun r e => (hr r e).2),
  h.hm.grown hB hg (fun r e => (hr r e).1), h.hb.grown hg h.hb.size (fun r e => by have := (hr r e).1; omega)⟩
theorem Ow.ne45 (h : Ow w b1 b2 b4 b5 C1 C2 C4 c ds B W) : b5 ≠ b4 := blk_ne h.h5 h.h4 (by decide)
theorem Ow.ne14 (h : Ow w b1 b2 b4 b5 C1 C2 C4 c ds B W) : b1 ≠ b4 := blk_ne h.h1 h.h4 (by decide)
theorem Ow.ne15 (h : Ow w b1 b2 b4 b5 C1 C2 C4 c ds B W) : b1 ≠ b5 := blk_ne h.h1 h.h5 (by decide)
theorem Ow.ne25 (h : Ow w b1 b2 b4 b5 C1 C2 C4 c ds B W) : b2 ≠ b5 := blk_ne h.h2 h.h5 (by decide)
theorem Ow.ne54 (h : Ow w b1 b2 b4 b5 C1 C2 C4 c ds B W) : b4 ≠ b5 := blk_ne h.h4 h.h5 (by decide)
theorem Ow.set4 (h : Ow w b1 b2 b4 b5 C1 C2 C4 c ds B W) (n24 : b2 ≠ b4) (g4 : w.heap.size ≤ b4) (i : Nat) (v : Value) : Ow w b1 b2 b4 b5 C1 C2 (C4.setIfInBounds i v) c ds B (W.setCell ⟨b4, i, none⟩ v) :=
 ⟨blk_far h.h1 h.ne14 v, blk_far h.h2 n24 v, blk_set h.h4 i v, blk_far h.h5 h.ne45 v, h.hm.setCell h.h4 i v, h.hb.setCell (p := ⟨b4, i, none⟩) g4 v⟩
theorem Ow.set5 (h : Ow w b1 b2 b4 b5 C1 C2 C4 c ds B W) (g5 : w.heap.size ≤ b5) (c' : Int) : Ow w b1 b2 b4 b5 C1 C2 C4 c' ds B (W.setCell ⟨b5, 0, none⟩ (.int .i64 c')) :=
 ⟨blk_far h.h1 h.ne15 _, blk_far h.h2 h.ne25 _, blk_far h.h4 h.ne54 _, blk_set h.h5 0 _, h.hm.setCell h.h5 0 _, h.hb.setCell (p := ⟨b5, 0, none⟩) g5 _⟩
theorem Ow.up (h : Ow w b1 b2 b4 b5 C1 C2 C4 c ds B W) {B' : Nat} (hB : B ≤ B') : Ow w b1 b2 b4 b5 C1 C2 C4 c ds B' W := ⟨h.h1, h.h2, h.h4, h.h5, h.hm.keep hB (fun _ _ h => h), h.hb⟩
theorem Held.grown {bi bj bt : Nat} {i j : Int} (h : Held w bi bj bt i j C1 W) {row : Option Nat} (hg : W.grownBy W' row) {B' : Nat} (hB2 : w.heap.size ≤ B') (hr : ∀ r, row = some r → B' ≤ r ∧ ∃ o : Obj, W.heap[r]? = some o ∧ o.isCells = false) : Held w bi bj bt i j C1 W' :=
 ⟨blk_grown h.hi hg (row_ne h.hi fun r e => (hr r e).2), blk_grown h.hj hg (row_ne h.hj fun r e => (hr r e).2), blk_grown h.ht hg (row_ne h.ht fun r e => (hr r e).2), h.hb.grown hg h.hb.size (fun r e => by have := (hr r e).1; omega)⟩
theorem KeepsOthers.ofBelow (hb : Below W.heap.size W W') : KeepsOthers W W' := ⟨hb.size, fun k o hk _ => (hb.block k (Array.getElem?_eq_some_iff.1 hk).1).trans hk⟩
theorem Keeps.trans {n : Nat} {S : Nat → Prop} {X Y Z : World} (h : Keeps n S X Y) (k : Keeps n S Y Z) : Keeps n S X Z := ⟨h.1.trans k.1, fun b o hS ho hc => k.2 b o hS (h.2 b o hS ho hc) hc⟩
theorem Keeps.ofBelow {n : Nat} {S : Nat → Prop} (hn : n ≤ W.heap.size) (hb : Below W.heap.size W W') : Keeps n S W W' := ⟨hb.mono hn, fun b o _ ho _ => blk_below ho hb⟩
theorem Keeps.setCell {n b : Nat} {S : Nat → Prop} (hn : n ≤ b) (hS : ¬ S b) (i : Nat) (v : Value) : Keeps n S W (W.setCell ⟨b, i, none⟩ v) :=
 ⟨(Below.refl n W).setCell (p := ⟨b, i, none⟩) hn v, fun k o hk ho _ => (Below.heap_setCell W ⟨b, i, none⟩ v k (fun e => hS (by rw [← show k = b from e]; exact hk))).trans ho⟩
theorem Keeps.putObj {n l : Nat} {S : Nat → Prop} {o o' : Obj} (hn : n ≤ l) (ho : W.heap[l]? = some o) (hc : o.isCells = false) : Keeps n S W (W.putObj l o') := by
 refine ⟨(Below.refl n W).grown (grownBy_putObj' W l o') (by have := blk_lt ho; omega) (fun k e => by cases e; exact hn), fun b p hS hp hpc => ?_⟩
 refine (World.putObj_heap_other (fun e => ?_)).trans hp
 subst e
 rw [ho] at hp
 injection hp with hp
 rw [hp, hpc] at hc
 cases hc
end
end Go.Proofs.YtpdahkgandaabaaGreatDoor.Ch
