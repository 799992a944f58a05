/- A part of the proof of TopAgain, where the package's tables hold what their initialisers lay. -/
import Derived.Shelf.Abstract
import Derived.Shelf.RegionOpen
import Derived.WalkKit
import Derived.LoopNIn
import Derived.LoopIn
import Derived.Outline
import Derived.Test.YtpdahkgandaabaaGreatDoorT01
import Derived.Test.YtpdahkgandaabaaGreatDoorT13
namespace Go.Proofs.YtpdahkgandaabaaGreatDoor.Ch
open Go.RowKit Go.Shelf Go.Proofs.YtpdahkgandaabaaGreatDoorW.PrintWords Go.Proofs.YtpdahkgandaabaaGreatDoorW.PrintLast Go.Proofs.YtpdahkgandaabaaGreatDoorW.PrintMore Go.Proofs.YtpdahkgandaabaaGreatDoor.PTopNames Go.Proofs.YtpdahkgandaabaaGreatDoor.Al
set_option linter.unusedVariables false
set_option linter.unusedSimpArgs false
attribute [local go_sem] Oper.semAt_some
set_option maxRecDepth 100000 in
set_option maxHeartbeats 4000000 in
theorem spfits_tells (m0 m1 m2 m3 m4 m5 : Int) : ∃ k, Tells 134 #[sym m0 m1 m2 m3 m4 m5] (.bool k) := by
 obtain ⟨n0, n1, n2, n3, n4, n5, e, hs⟩ := sadd_tells m0 m1 m2 m3 m4 m5 0 0 0 0 0 0
 have HS := am hs
 clear hs
 refine ⟨decide (e = 0), fun w hG => ?_⟩
 unfold sym at *
 have HG := am hG
 clear hG
 go_enter Tryz.func134, Tryz.ntmps134
 go_upto_region 1 with fail
 have H1 := am (blk_new w (.cells #[m0, m1, m2, m3, m4, m5] 46))
 have HB := am (below_alloc (Below.refl w.heap.size w) (.cells #[m0, m1, m2, m3, m4, m5] 46))
 have g1 : w.heap.size ≤ w.heap.size := Nat.le_refl _
 generalize w.alloc (.cells #[m0, m1, m2, m3, m4, m5] 46) = w1 at H1 HB ⊢
 generalize w.heap.size = b1 at H1 g1 ⊢
 have y10 := b_v H1 0 (.int .i64 m0) rfl
 have y11 := b_v H1 1 (.int .i64 m1) rfl
 have y12 := b_v H1 2 (.int .i64 m2) rfl
 have y13 := b_v H1 3 (.int .i64 m3) rfl
 have y14 := b_v H1 4 (.int .i64 m4) rfl
 have y15 := b_v H1 5 (.int .i64 m5) rfl
 go_wp2_with fail
 refine (HS.out w1 (HG.out.below HB.out)).mono ?_
 rintro e w2 ⟨rfl, hb⟩
 replace HB := b_s HB hb
 clear hb y10 y11 y12 y13 y14 y15
 go_upto_region 2 with fail
 replace HB := am (below_alloc HB.out (.cells #[n0, n1, n2, n3, n4, n5] 46))
 generalize w2.alloc (.cells #[n0, n1, n2, n3, n4, n5] 46) = w3 at HB ⊢
 generalize w2.heap.size = b3
 go_wp2_with fail
 go_ret
 exact ⟨rfl, HB.out⟩
set_option maxRecDepth 100000 in
set_option maxHeartbeats 4000000 in
theorem terms_any (w : World) (m0 m1 m2 m3 m4 m5 i j : Int) : Calls Tryz.prog 135 #[sym m0 m1 m2 m3 m4 m5, i, j] w fun e w' => e = .returned (.func (.func 154) #[] #[.pointer (some ⟨w.heap.size + 1, 0, none⟩), .pointer (some ⟨w.heap.size + 2, 0, none⟩), .pointer (some ⟨w.heap.size, 0, none⟩)]) ∧
  w' = ((w.alloc (.cells (symA m0 m1 m2 m3 m4 m5) 46)).alloc (.cells #[i] 3)).alloc (.cells #[j] 3) := by
 unfold sym symA
 go_enter Tryz.func135, Tryz.ntmps135
 go_wp2
 go_ret
 exact ⟨rfl, rfl⟩
set_option maxRecDepth 100000 in
set_option maxHeartbeats 4000000 in
theorem twelve_set {w0 w : World} {b : Nat} (hX : w.heap[b]? = some (.cells #[(), .int .u64 0, (), .int .u64 0, (), .int .u64 0, (), .int .u64 0, (), .int .u64 0, (), .int .u64 0] 143 (0, 0))) (g : w0.heap.size ≤ b) (hB : Below w0.heap.size w0 w) (x0 x1 x2 x3 x4 x5 x6 x7 x8 x9 x10 x11 : Value) :
  ((((((((((((w.setCell ⟨b, 0, none⟩ x0).setCell ⟨b, 1, none⟩ x1).setCell ⟨b, 2, none⟩ x2).setCell ⟨b, 3, none⟩ x3).setCell ⟨b, 4, none⟩ x4).setCell ⟨b, 5, none⟩ x5).setCell ⟨b, 6, none⟩ x6).setCell ⟨b, 7, none⟩ x7).setCell ⟨b, 8, none⟩ x8).setCell ⟨b, 9, none⟩ x9).setCell ⟨b, 10, none⟩ x10).setCell ⟨b, 11, none⟩ x11).heap[b]? = some (.cells #[x0, x1, x2, x3, x4, x5, x6, x7, x8, x9, x10, x11] 143 (0, 0)) ∧ Below w0.heap.size w0 ((((((((((((w.setCell ⟨b, 0, none⟩ x0).setCell ⟨b, 1, none⟩ x1).setCell ⟨b, 2, none⟩ x2).setCell ⟨b, 3, none⟩ x3).setCell ⟨b, 4, none⟩ x4).setCell ⟨b, 5, none⟩ x5).setCell ⟨b, 6, none⟩ x6).setCell ⟨b, 7, none⟩ x7).setCell ⟨b, 8, none⟩ x8).setCell ⟨b, 9, none⟩ x9).setCell ⟨b, 10, none⟩ x10).setCell ⟨b, 11, none⟩ x11) ∧ (∀ k, k ≠ b → ((((((((((((w.setCell ⟨b, 0, none⟩ x0).setCell ⟨b, 1, none⟩ x1).setCell ⟨b, 2, none⟩ x2).setCell ⟨b, 3, none⟩ x3).setCell ⟨b, 4, none⟩ x4).setCell ⟨b, 5, none⟩ x5).setCell ⟨b, 6, none⟩ x6).setCell ⟨b, 7, none⟩ x7).setCell ⟨b, 8, none⟩ x8).setCell ⟨b, 9, none⟩ x9).setCell ⟨b, 10, none⟩ x10).setCell ⟨b, 11, none⟩ x11).heap[k]? = w.heap[k]?) := by
 have h1 : (w.setCell ⟨b, 0, none⟩ x0).heap[b]? = some (.cells #[x0, .int .u64 0, (), .int .u64 0, (), .int .u64 0, (), .int .u64 0, (), .int .u64 0, (), .int .u64 0] 143 (0, 0)) := blk_set hX 0 x0
 have h2 : ((w.setCell ⟨b, 0, none⟩ x0).setCell ⟨b, 1, none⟩ x1).heap[b]? = some (.cells #[x0, x1, (), .int .u64 0, (), .int .u64 0, (), .int .u64 0, (), .int .u64 0, (), .int .u64 0] 143 (0, 0)) := blk_set h1 1 x1
 have h3 : (((w.setCell ⟨b, 0, none⟩ x0).setCell ⟨b, 1, none⟩ x1).setCell ⟨b, 2, none⟩ x2).heap[b]? = some (.cells #[x0, x1, x2, .int .u64 0, (), .int .u64 0, (), .int .u64 0, (), .int .u64 0, (), .int .u64 0] 143 (0, 0)) := blk_set h2 2 x2
 have h4 : ((((w.setCell ⟨b, 0, none⟩ x0).setCell ⟨b, 1, none⟩ x1).setCell ⟨b, 2, none⟩ x2).setCell ⟨b, 3, none⟩ x3).heap[b]? = some (.cells #[x0, x1, x2, x3, (), .int .u64 0, (), .int .u64 0, (), .int .u64 0, (), .int .u64 0] 143 (0, 0)) := blk_set h3 3 x3
 have h5 : (((((w.setCell ⟨b, 0, none⟩ x0).setCell ⟨b, 1, none⟩ x1).setCell ⟨b, 2, none⟩ x2).setCell ⟨b, 3, none⟩ x3).setCell ⟨b, 4, none⟩ x4).heap[b]? = some (.cells #[x0, x1, x2, x3, x4, .int .u64 0, (), .int .u64 0, (), .int .u64 0, (), .int .u64 0] 143 (0, 0)) := blk_set h4 4 x4
 have h6 : ((((((w.setCell ⟨b, 0, none⟩ x0).setCell ⟨b, 1, none⟩ x1).setCell ⟨b, 2, none⟩ x2).setCell ⟨b, 3, none⟩ x3).setCell ⟨b, 4, none⟩ x4).setCell ⟨b, 5, none⟩ x5).heap[b]? = some (.cells #[x0, x1, x2, x3, x4, x5, (), .int .u64 0, (), .int .u64 0, (), .int .u64 0] 143 (0, 0)) := blk_set h5 5 x5
 have h7 : (((((((w.setCell ⟨b, 0, none⟩ x0).setCell ⟨b, 1, none⟩ x1).setCell ⟨b, 2, none⟩ x2).setCell ⟨b, 3, none⟩ x3).setCell ⟨b, 4, none⟩ x4).setCell ⟨b, 5, none⟩ x5).setCell ⟨b, 6, none⟩ x6).heap[b]? = some (.cells #[x0, x1, x2, x3, x4, x5, x6, .int .u64 0, (), .int .u64 0, (), .int .u64 0] 143 (0, 0)) := blk_set h6 6 x6
 have h8 : ((((((((w.setCell ⟨b, 0, none⟩ x0).setCell ⟨b, 1, none⟩ x1).setCell ⟨b, 2, none⟩ x2).setCell ⟨b, 3, none⟩ x3).setCell ⟨b, 4, none⟩ x4).setCell ⟨b, 5, none⟩ x5).setCell ⟨b, 6, none⟩ x6).setCell ⟨b, 7, none⟩ x7).heap[b]? = some (.cells #[x0, x1, x2, x3, x4, x5, x6, x7, (), .int .u64 0, (), .int .u64 0] 143 (0, 0)) := blk_set h7 7 x7
 have h9 : (((((((((w.setCell ⟨b, 0, none⟩ x0).setCell ⟨b, 1, none⟩ x1).setCell ⟨b, 2, none⟩ x2).setCell ⟨b, 3, none⟩ x3).setCell ⟨b, 4, none⟩ x4).setCell ⟨b, 5, none⟩ x5).setCell ⟨b, 6, none⟩ x6).setCell ⟨b, 7, none⟩ x7).setCell ⟨b, 8, none⟩ x8).heap[b]? = some (.cells #[x0, x1, x2, x3, x4, x5, x6, x7, x8, .int .u64 0, (), .int .u64 0] 143 (0, 0)) := blk_set h8 8 x8
 have h10 : ((((((((((w.setCell ⟨b, 0, none⟩ x0).setCell ⟨b, 1, none⟩ x1).setCell ⟨b, 2, none⟩ x2).setCell ⟨b, 3, none⟩ x3).setCell ⟨b, 4, none⟩ x4).setCell ⟨b, 5, none⟩ x5).setCell ⟨b, 6, none⟩ x6).setCell ⟨b, 7, none⟩ x7).setCell ⟨b, 8, none⟩ x8).setCell ⟨b, 9, none⟩ x9).heap[b]? = some (.cells #[x0, x1, x2, x3, x4, x5, x6, x7, x8, x9, (), .int .u64 0] 143 (0, 0)) := blk_set h9 9 x9
 have h11 : (((((((((((w.setCell ⟨b, 0, none⟩ x0).setCell ⟨b, 1, none⟩ x1).setCell ⟨b, 2, none⟩ x2).setCell ⟨b, 3, none⟩ x3).setCell ⟨b, 4, none⟩ x4).setCell ⟨b, 5, none⟩ x5).setCell ⟨b, 6, none⟩ x6).setCell ⟨b, 7, none⟩ x7).setCell ⟨b, 8, none⟩ x8).setCell ⟨b, 9, none⟩ x9).setCell ⟨b, 10, none⟩ x10).heap[b]? = some (.cells #[x0, x1, x2, x3, x4, x5, x6, x7, x8, x9, x10, .int .u64 0] 143 (0, 0)) := blk_set h10 10 x10
 have h12 : ((((((((((((w.setCell ⟨b, 0, none⟩ x0).setCell ⟨b, 1, none⟩ x1).setCell ⟨b, 2, none⟩ x2).setCell ⟨b, 3, none⟩ x3).setCell ⟨b, 4, none⟩ x4).setCell ⟨b, 5, none⟩ x5).setCell ⟨b, 6, none⟩ x6).setCell ⟨b, 7, none⟩ x7).setCell ⟨b, 8, none⟩ x8).setCell ⟨b, 9, none⟩ x9).setCell ⟨b, 10, none⟩ x10).setCell ⟨b, 11, none⟩ x11).heap[b]? = some (.cells #[x0, x1, x2, x3, x4, x5, x6, x7, x8, x9, x10, x11] 143 (0, 0)) := blk_set h11 11 x11
 refine ⟨h12, (Below.setCell (Below.setCell (Below.setCell (Below.setCell (Below.setCell (Below.setCell (Below.setCell (Below.setCell (Below.setCell (Below.setCell (Below.setCell (Below.setCell hB (p := ⟨b, 0, none⟩) g x0) (p := ⟨b, 1, none⟩) g x1) (p := ⟨b, 2, none⟩) g x2) (p := ⟨b, 3, none⟩) g x3) (p := ⟨b, 4, none⟩) g x4) (p := ⟨b, 5, none⟩) g x5) (p := ⟨b, 6, none⟩) g x6) (p := ⟨b, 7, none⟩) g x7) (p := ⟨b, 8, none⟩) g x8) (p := ⟨b, 9, none⟩) g x9) (p := ⟨b, 10, none⟩) g x10) (p := ⟨b, 11, none⟩) g x11), fun k hk => ?_⟩
 exact ((Below.heap_setCell _ ⟨b, 11, none⟩ x11 k hk).trans ((Below.heap_setCell _ ⟨b, 10, none⟩ x10 k hk).trans ((Below.heap_setCell _ ⟨b, 9, none⟩ x9 k hk).trans ((Below.heap_setCell _ ⟨b, 8, none⟩ x8 k hk).trans ((Below.heap_setCell _ ⟨b, 7, none⟩ x7 k hk).trans ((Below.heap_setCell _ ⟨b, 6, none⟩ x6 k hk).trans ((Below.heap_setCell _ ⟨b, 5, none⟩ x5 k hk).trans ((Below.heap_setCell _ ⟨b, 4, none⟩ x4 k hk).trans ((Below.heap_setCell _ ⟨b, 3, none⟩ x3 k hk).trans ((Below.heap_setCell _ ⟨b, 2, none⟩ x2 k hk).trans ((Below.heap_setCell _ ⟨b, 1, none⟩ x1 k hk).trans ((Below.heap_setCell _ ⟨b, 0, none⟩ x0 k hk).trans rfl))))))))))))
def Ent (i j c : Int) : Prop := (i = 0 ∧ j = 0 ∧ c = 0) ∨ (i = 0 ∧ j = 1 ∧ c = 1) ∨ (i = 0 ∧ j = 2 ∧ c = 2) ∨ (i = 1 ∧ j = 1 ∧ c = 3) ∨ (i = 1 ∧ j = 2 ∧ c = 4) ∨ (i = 2 ∧ j = 2 ∧ c = 5)
theorem ent_terms (m0 m1 m2 m3 m4 m5 : Int) : ∃ T : Nat → Nat → Wd, ∀ i j c, Ent i j c → IsTerms m0 m1 m2 m3 m4 m5 i j (T c.toNat) := by
 obtain ⟨t0, h0⟩ := terms_ex m0 m1 m2 m3 m4 m5 0 0
 obtain ⟨t1, h1⟩ := terms_ex m0 m1 m2 m3 m4 m5 0 1
 obtain ⟨t2, h2⟩ := terms_ex m0 m1 m2 m3 m4 m5 0 2
 obtain ⟨t3, h3⟩ := terms_ex m0 m1 m2 m3 m4 m5 1 1
 obtain ⟨t4, h4⟩ := terms_ex m0 m1 m2 m3 m4 m5 1 2
 obtain ⟨t5, h5⟩ := terms_ex m0 m1 m2 m3 m4 m5 2 2
 refine ⟨fun c => if c = 0 then t0 else if c = 1 then t1 else if c = 2 then t2 else if c = 3 then t3 else if c = 4 then t4 else t5, fun i j c h => ?_⟩
 rcases h with ⟨rfl, rfl, rfl⟩ | ⟨rfl, rfl, rfl⟩ | ⟨rfl, rfl, rfl⟩ | ⟨rfl, rfl, rfl⟩ | ⟨rfl, rfl, rfl⟩ | ⟨rfl, rfl, rfl⟩
 ·
  exact h0
 ·
  exact h1
 ·
  exact h2
 ·
  exact h3
 ·
  exact h4
 exact h5
set_option maxRecDepth 100000 in
set_option maxHeartbeats 4000000 in
theorem raw_tells (m0 m1 m2 m3 m4 m5 : Int) : ∃ (R : Nat → Wd) (e : Int), Tells 99 #[sym m0 m1 m2 m3 m4 m5] (.tuple #[.agg (outA R), e]) := by
 obtain ⟨kf, hf⟩ := spfits_tells m0 m1 m2 m3 m4 m5
 have HF := am hf
 clear hf
 cases kf with
 | false =>
  refine ⟨fun _ => z0, 1, fun w hG => ?_⟩
  have HG := am hG
  clear hG
  unfold sym at *
  refine (callsIn_wide (n := 3)).1 (callsIn_of_wp_marks Tryz.func99 rfl trivial (wpIn_wide.2 ?_) rfl)
  simp only [Tryz.ntmps99, List.size_toArray, List.length_cons, List.length_nil, Nat.reduceAdd, Nat.reduceSub, Array.replicate_succ, Array.replicate_zero, List.push_toArray, List.append_toArray, List.nil_append, List.cons_append]
  refine wp_still ?_
  go_upto_region 2 with fail
  obtain ⟨x1', x2', x4', hB⟩ := blocks3 w #[m0, m1, m2, m3, m4, m5] #[(), .int .u64 0, (), .int .u64 0, (), .int .u64 0, (), .int .u64 0, (), .int .u64 0, (), .int .u64 0] #[(), .int .u64 0, (), .int .u64 0, (), .int .u64 0, (), .int .u64 0, (), .int .u64 0, (), .int .u64 0] 46 143 143
  generalize ((w.alloc (.cells #[m0, m1, m2, m3, m4, m5] 46)).alloc (.cells #[(), .int .u64 0, (), .int .u64 0, (), .int .u64 0, (), .int .u64 0, (), .int .u64 0, (), .int .u64 0] 143)).alloc (.cells #[(), .int .u64 0, (), .int .u64 0, (), .int .u64 0, (), .int .u64 0, (), .int .u64 0, (), .int .u64 0] 143) = w1 at x1' x2' x4' hB ⊢
  obtain ⟨b1, h1⟩ := e_x (w.heap.size)
  obtain ⟨b2, h2⟩ := e_x (w.heap.size + 1)
  obtain ⟨b4, h4⟩ := e_x (w.heap.size + 1 + 1)
  have g1 : w.heap.size ≤ b1 := by omega
  have g2 : w.heap.size ≤ b2 := by omega
  have g4 : w.heap.size ≤ b4 := by omega
  have n1_2 : b1 ≠ b2 := by omega
  have n1_4 : b1 ≠ b4 := by omega
  have n2_1 : b2 ≠ b1 := by omega
  have n2_4 : b2 ≠ b4 := by omega
  have n4_1 : b4 ≠ b1 := by omega
  have n4_2 : b4 ≠ b2 := by omega
  rw [← h4, ← h2, ← h1]
  rw [← h4] at x4'
  rw [← h2] at x2'
  rw [← h1] at x1'
  have H1 := am x1'
  have H2 := am x2'
  have H4 := am x4'
  have HB := am hB
  clear x1' x2' x4' hB h1 h2 h4
  have y10 := b_v H1 0 (.int .i64 m0) rfl
  have y11 := b_v H1 1 (.int .i64 m1) rfl
  have y12 := b_v H1 2 (.int .i64 m2) rfl
  have y13 := b_v H1 3 (.int .i64 m3) rfl
  have y14 := b_v H1 4 (.int .i64 m4) rfl
  have y15 := b_v H1 5 (.int .i64 m5) rfl
  go_wp2_with fail
  refine (HF.out w1 (HG.out.below HB.out)).mono ?_
  rintro e w2 ⟨rfl, hb⟩
  replace H1 := b_b H1 hb
  replace H2 := b_b H2 hb
  replace H4 := b_b H4 hb
  replace HB := b_s HB hb
  clear hb y10 y11 y12 y13 y14 y15
  have y40 := b_v H4 0 (.int .i64 0) rfl
  have y41 := b_v H4 1 (.int .u64 0) rfl
  have y42 := b_v H4 2 (.int .i64 0) rfl
  have y43 := b_v H4 3 (.int .u64 0) rfl
  have y44 := b_v H4 4 (.int .i64 0) rfl
  have y45 := b_v H4 5 (.int .u64 0) rfl
  have y46 := b_v H4 6 (.int .i64 0) rfl
  have y47 := b_v H4 7 (.int .u64 0) rfl
  have y48 := b_v H4 8 (.int .i64 0) rfl
  have y49 := b_v H4 9 (.int .u64 0) rfl
  have y410 := b_v H4 10 (.int .i64 0) rfl
  have y411 := b_v H4 11 (.int .u64 0) rfl
  have y20 := b_v H2 0 (.int .i64 0) rfl
  have f20 := b_z H2 0
  have y21 := b_v H2 1 (.int .u64 0) rfl
  have f21 := b_z H2 1
  have y22 := b_v H2 2 (.int .i64 0) rfl
  have f22 := b_z H2 2
  have y23 := b_v H2 3 (.int .u64 0) rfl
  have f23 := b_z H2 3
  have y24 := b_v H2 4 (.int .i64 0) rfl
  have f24 := b_z H2 4
  have y25 := b_v H2 5 (.int .u64 0) rfl
  have f25 := b_z H2 5
  have y26 := b_v H2 6 (.int .i64 0) rfl
  have f26 := b_z H2 6
  have y27 := b_v H2 7 (.int .u64 0) rfl
  have f27 := b_z H2 7
  have y28 := b_v H2 8 (.int .i64 0) rfl
  have f28 := b_z H2 8
  have y29 := b_v H2 9 (.int .u64 0) rfl
  have f29 := b_z H2 9
  have y210 := b_v H2 10 (.int .i64 0) rfl
  have f210 := b_z H2 10
  have y211 := b_v H2 11 (.int .u64 0) rfl
  have f211 := b_z H2 11
  go_wp2_with fail
  obtain ⟨q, qb, _⟩ := twelve_set H2.out g2 HB.out (.int .i64 0) (.int .u64 0) (.int .i64 0) (.int .u64 0) (.int .i64 0) (.int .u64 0) (.int .i64 0) (.int .u64 0) (.int .i64 0) (.int .u64 0) (.int .i64 0) (.int .u64 0)
  refine ⟨_, results_ct rfl _ _ b2 143 _ (0, 0) _ rfl q Tryz.underlying143 rfl (by kernel_rfl), rfl, qb⟩
 | true =>
  obtain ⟨T, hT⟩ := ent_terms m0 m1 m2 m3 m4 m5
  have HT := am hT
  clear hT
  obtain ⟨F, hF⟩ : ∃ F : Nat → Wd, ∀ c, F c = foldw ((List.range 9).map (T c)) := ⟨_, fun _ => rfl⟩
  have HFo := am hF
  clear hF
  refine ⟨F, 0, fun w hG => ?_⟩
  have HG := am hG
  clear hG
  unfold sym at *
  refine (callsIn_wide (n := 3)).1 (callsIn_of_wp_marks Tryz.func99 rfl trivial (wpIn_wide.2 ?_) rfl)
  simp only [Tryz.ntmps99, List.size_toArray, List.length_cons, List.length_nil, Nat.reduceAdd, Nat.reduceSub, Array.replicate_succ, Array.replicate_zero, List.push_toArray, List.append_toArray, List.nil_append, List.cons_append]
  refine wp_still ?_
  go_upto_region 2 with fail
  obtain ⟨x1', x2', x4', hB⟩ := blocks3 w #[m0, m1, m2, m3, m4, m5] #[(), .int .u64 0, (), .int .u64 0, (), .int .u64 0, (), .int .u64 0, (), .int .u64 0, (), .int .u64 0] #[(), .int .u64 0, (), .int .u64 0, (), .int .u64 0, (), .int .u64 0, (), .int .u64 0, (), .int .u64 0] 46 143 143
  generalize ((w.alloc (.cells #[m0, m1, m2, m3, m4, m5] 46)).alloc (.cells #[(), .int .u64 0, (), .int .u64 0, (), .int .u64 0, (), .int .u64 0, (), .int .u64 0, (), .int .u64 0] 143)).alloc (.cells #[(), .int .u64 0, (), .int .u64 0, (), .int .u64 0, (), .int .u64 0, (), .int .u64 0, (), .int .u64 0] 143) = w1 at x1' x2' x4' hB ⊢
  obtain ⟨b1, h1⟩ := e_x (w.heap.size)
  obtain ⟨b2, h2⟩ := e_x (w.heap.size + 1)
  obtain ⟨b4, h4⟩ := e_x (w.heap.size + 1 + 1)
  have g1 : w.heap.size ≤ b1 := by omega
  have g2 : w.heap.size ≤ b2 := by omega
  have g4 : w.heap.size ≤ b4 := by omega
  have n1_2 : b1 ≠ b2 := by omega
  have n1_4 : b1 ≠ b4 := by omega
  have n2_1 : b2 ≠ b1 := by omega
  have n2_4 : b2 ≠ b4 := by omega
  have n4_1 : b4 ≠ b1 := by omega
  have n4_2 : b4 ≠ b2 := by omega
  rw [← h4, ← h2, ← h1]
  rw [← h4] at x4'
  rw [← h2] at x2'
  rw [← h1] at x1'
  have H1 := am x1'
  have H2 := am x2'
  have H4 := am x4'
  have HB := am hB
  clear x1' x2' x4' hB h1 h2 h4
  have y10 := b_v H1 0 (.int .i64 m0) rfl
  have y11 := b_v H1 1 (.int .i64 m1) rfl
  have y12 := b_v H1 2 (.int .i64 m2) rfl
  have y13 := b_v H1 3 (.int .i64 m3) rfl
  have y14 := b_v H1 4 (.int .i64 m4) rfl
  have y15 := b_v H1 5 (.int .i64 m5) rfl
  go_wp2_with fail
  refine (HF.out w1 (HG.out.below HB.out)).mono ?_
  rintro e w2 ⟨rfl, hb⟩
  replace H1 := b_b H1 hb
  replace H2 := b_b H2 hb
  replace H4 := b_b H4 hb
  replace HB := b_s HB hb
  clear hb y10 y11 y12 y13 y14 y15
  go_upto_region 5 with fail
  have n24 := n2_4
  replace H1 := am (blk_alloc H1.out (.cells #[()] 3))
  replace H2 := am (blk_alloc H2.out (.cells #[()] 3))
  replace H4 := am (blk_alloc H4.out (.cells #[()] 3))
  have H5 := am (blk_new w2 (.cells #[()] 3))
  have g5 : w.heap.size ≤ w2.heap.size := HB.out.size
  replace HB := am (below_alloc HB.out (.cells #[()] 3))
  generalize w2.alloc (.cells #[()] 3) = w3 at H1 H2 H4 H5 HB ⊢
  generalize w2.heap.size = b5 at H5 g5 ⊢
  obtain ⟨ds, hds⟩ : ∃ ds : List Deferred, ds = [] := ⟨[], rfl⟩
  have HO := am (show Ow w b1 b2 b4 b5 #[m0, m1, m2, m3, m4, m5] #[(), .int .u64 0, (), .int .u64 0, (), .int .u64 0, (), .int .u64 0, (), .int .u64 0, (), .int .u64 0] (outA (outV F (0 : Int).toNat z0)) 0 [] w3.heap.size w3 from ⟨H1.out, H2.out, by rw [show (0 : Int).toNat = 0 from rfl, outV_0]; exact H4.out, H5.out, trivial, HB.out⟩)
  clear H1 H2 H4 H5 HB
  go_wp2_with fail
  refine wp_count 3 (fun n a w' => ∃ (iz c : Int) (ds : List Deferred) (s0 s6 s7 s8 s9 s10 s11 s12 s14 s15 s16 s17 s18 s19 s20 s21 s22 s23 s24 s25 s26 s27 s28 s29 s30 s31 s32 s33 s34 s35 s36 s37 s38 s39 : Value), a = { tmps := #[s0, .pointer (some ⟨b1, 0, none⟩), .pointer (some ⟨b2, 0, none⟩), .int .i64 0, .pointer (some ⟨b4, 0, none⟩), .pointer (some ⟨b5, 0, none⟩), s6, s7, s8, s9, s10, s11, s12, .int .i64 iz, s14, s15, s16, s17, s18, s19, s20, s21, s22, s23, s24, s25, s26, s27, s28, s29, s30, s31, s32, s33, s34, s35, s36, s37, s38, s39], defers := ds } ∧ ((n = 0 ∧ iz = 0 ∧ c = 0) ∨ (n = 1 ∧ iz = 1 ∧ c = 3) ∨ (n = 2 ∧ iz = 2 ∧ c = 5) ∨ (n = 3 ∧ iz = 3 ∧ c = 6)) ∧ Aside0 (Ow w b1 b2 b4 b5 #[m0, m1, m2, m3, m4, m5] #[(), .int .u64 0, (), .int .u64 0, (), .int .u64 0, (), .int .u64 0, (), .int .u64 0, (), .int .u64 0] (outA (outV F c.toNat z0)) c ds w'.heap.size w')) ?last ?round ?start
  case last =>
   rintro a w' ⟨iz, c, ds, s0, s6, s7, s8, s9, s10, s11, s12, s14, s15, s16, s17, s18, s19, s20, s21, s22, s23, s24, s25, s26, s27, s28, s29, s30, s31, s32, s33, s34, s35, s36, s37, s38, s39, ha, hc, _⟩
   omega
  case start => exact ⟨0, 0, [], _, _, _, _, _, _, _, _, _, _, _, _, _, _, _, _, _, _, _, _, _, _, _, _, _, _, _, _, _, _, _, _, _, _, rfl, by omega, HO⟩
  case round =>
   clear HO hds ds
   rintro n hn K hK a w' ⟨iz, c0, ds, s0, s6, s7, s8, s9, s10, s11, s12, s14, s15, s16, s17, s18, s19, s20, s21, s22, s23, s24, s25, s26, s27, s28, s29, s30, s31, s32, s33, s34, s35, s36, s37, s38, s39, rfl, hc, HO⟩
   have HK := am hK
   have HC := am hc
   have i0 : 0 ≤ iz := by omega
   have i3 : iz ≤ 3 := by omega
   have c0' : 0 ≤ c0 := by omega
   clear hK hc hn
   by_cases h3 : iz < 3
   ·
    go_wp2_with fail
    refine wp_count 3 (fun k a w' => ∃ (jz c : Int) (ds : List Deferred) (s0 s8 s9 s10 s11 s12 s14 s15 s16 s17 s18 s19 s20 s21 s22 s23 s24 s25 s26 s27 s28 s29 s30 s31 s32 s33 s34 s35 s36 s37 s38 s39 : Value), a = { tmps := #[s0, .pointer (some ⟨b1, 0, none⟩), .pointer (some ⟨b2, 0, none⟩), .int .i64 0, .pointer (some ⟨b4, 0, none⟩), .pointer (some ⟨b5, 0, none⟩), .int .i64 iz, .int .i64 jz, s8, s9, s10, s11, s12, .int .i64 iz, s14, s15, s16, s17, s18, s19, s20, s21, s22, s23, s24, s25, s26, s27, s28, s29, s30, s31, s32, s33, s34, s35, s36, s37, s38, s39], defers := ds } ∧ (jz = iz + k ∧ c = c0 + k ∧ jz ≤ 3) ∧ Aside0 (Ow w b1 b2 b4 b5 #[m0, m1, m2, m3, m4, m5] #[(), .int .u64 0, (), .int .u64 0, (), .int .u64 0, (), .int .u64 0, (), .int .u64 0, (), .int .u64 0] (outA (outV F c.toNat z0)) c ds w'.heap.size w')) ?last2 ?round2 ?start2
    case last2 =>
     rintro a w' ⟨jz, c, ds, s0, s8, s9, s10, s11, s12, s14, s15, s16, s17, s18, s19, s20, s21, s22, s23, s24, s25, s26, s27, s28, s29, s30, s31, s32, s33, s34, s35, s36, s37, s38, s39, ha, hc, _⟩
     have := HC.out
     omega
    case start2 => exact ⟨iz, c0, ds, _, _, _, _, _, _, _, _, _, _, _, _, _, _, _, _, _, _, _, _, _, _, _, _, _, _, _, _, _, _, _, _, rfl, ⟨by simp, by simp, by omega⟩, HO⟩
    case round2 =>
     clear HO
     rintro k hk K2 hK2 a wj ⟨jz, c, ds, s0, s8, s9, s10, s11, s12, s14, s15, s16, s17, s18, s19, s20, s21, s22, s23, s24, s25, s26, s27, s28, s29, s30, s31, s32, s33, s34, s35, s36, s37, s38, s39, rfl, hj, HO⟩
     have HK2 := am hK2
     have HE := am (fun h : jz < 3 => show Ent iz jz c by have := HC.out; unfold Ent; omega)
     have j0 : 0 ≤ jz := by omega
     have j3 : jz ≤ 3 := hj.2.2
     have c1 : 0 ≤ c := by omega
     have c6 : jz < 3 → c < 6 := by have := HC.out; omega
     have HJ := am hj
     clear hK2 hj hk
     by_cases hj3 : jz < 3
     ·
      replace c6 := c6 hj3
      have H1 := am HO.out.h1
      have y10 := b_v H1 0 (.int .i64 m0) rfl
      have y11 := b_v H1 1 (.int .i64 m1) rfl
      have y12 := b_v H1 2 (.int .i64 m2) rfl
      have y13 := b_v H1 3 (.int .i64 m3) rfl
      have y14 := b_v H1 4 (.int .i64 m4) rfl
      have y15 := b_v H1 5 (.int .i64 m5) rfl
      go_wp2_with fail
      refine (terms_any wj m0 m1 m2 m3 m4 m5 iz jz).mono ?_
      rintro e wt ⟨rfl, rfl⟩
      clear y10 y11 y12 y13 y14 y15 H1
      go_wp2_with fail
      have hlt4 := blk_lt HO.out.h4
      obtain ⟨xt, xi, xj, hB⟩ := blocks3 wj (symA m0 m1 m2 m3 m4 m5) #[iz] #[jz] 46 3 3
      have HO5 := am (HO.out.below hB)
      have hsz := hB.size
      have hnj := HO.out.hb.size
      clear HO hB
      generalize ((wj.alloc (.cells (symA m0 m1 m2 m3 m4 m5) 46)).alloc (.cells #[iz] 3)).alloc (.cells #[jz] 3) = wr at HO5 xt xi xj hsz ⊢
      obtain ⟨bi, hbi⟩ := e_x (wj.heap.size + 1)
      obtain ⟨bj, hbj⟩ := e_x (wj.heap.size + 2)
      rw [← hbi] at xi ⊢
      rw [show wj.heap.size + 1 + 1 = bj from hbj.symm] at xj
      rw [← hbj]
      generalize wj.heap.size = bt at HO5 xt hsz hnj hlt4 hbi hbj ⊢
      have hS4 : ¬ (b4 = bi ∨ b4 = bj ∨ b4 = bt) := by omega
      have HH5 : Aside0 (Held w bi bj bt iz jz (symA m0 m1 m2 m3 m4 m5) wr) := ⟨⟨xi, xj, xt, HO5.out.hb⟩⟩
      clear xi xj xt hbi hbj hlt4
      refine wpIn_wide.1 (range_on (F := Fence.wide) (n := 3) rfl (by omega) (gf := 154) (lb := #[.pointer (some ⟨bi, 0, none⟩), .pointer (some ⟨bj, 0, none⟩), .pointer (some ⟨bt, 0, none⟩)]) rfl trivial (enters_of Tryz.func154 (by kernel_rfl) rfl)
       (encs := encw) (Kp := Keeps w.heap.size (fun b => b = bi ∨ b = bj ∨ b = bt)) (S := fun xs => xs = (List.range 9).map (T c.toNat)) (N := 9) ?iter ?kt ?kb (fun x => rfl)
       (fun pre W => Ow w b1 b2 b4 b5 #[m0, m1, m2, m3, m4, m5] #[(), .int .u64 0, (), .int .u64 0, (), .int .u64 0, (), .int .u64 0, (), .int .u64 0, (), .int .u64 0] (outA (outV F c.toNat (foldw pre))) c ds bt W ∧ Held w bi bj bt iz jz (symA m0 m1 m2 m3 m4 m5) W) ?own ⟨HO5.out, HH5.out⟩
       (fun x a' W => ∃ bx, W.heap[bx]? = some (.cells #[.int .i64 x.1.1, .int .u64 x.1.2] 124 (0, 0)) ∧ a' = { tmps := #[s0, .pointer (some ⟨b1, 0, none⟩), .pointer (some ⟨b2, 0, none⟩), .int .i64 0, .pointer (some ⟨b4, 0, none⟩), .pointer (some ⟨b5, 0, none⟩), .int .i64 iz, .int .i64 jz, .pointer (some ⟨bx, 0, none⟩), s9, s10, s11, s12, .int .i64 iz, s14, s15, s16, .int .i64 jz, .bool true, s19, s20, .agg #[m0, m1, m2, m3, m4, m5], .int .i64 iz, .int .i64 jz, .func (.func 154) #[] #[.pointer (some ⟨bi, 0, none⟩), .pointer (some ⟨bj, 0, none⟩), .pointer (some ⟨bt, 0, none⟩)], .agg #[.int .i64 x.1.1, .int .u64 x.1.2], s26, s27, s28, s29, s30, s31, s32, s33, s34, s35, s36, s37, s38, s39], defers := [] }) ?ax ?assign ?body ?done)
      case iter =>
       intro l J W hb hsz2 hJ hY h0
       have := HC.out
       have := HJ.out
       exact terms1_in 2 (by omega) iz jz (by omega) (by omega) m0 m1 m2 m3 m4 m5 _ (HT.out _ _ _ (HE.out hj3)) l bi bj bt (fun b => b = bi ∨ b = bj ∨ b = bt) w W HG.out (.inl rfl) (.inr (.inl rfl)) (.inr (.inr rfl)) (HH5.out.step hb) J hJ hY h0
      case kt => exact fun h k => h.trans k
      case kb => exact fun W l o o' hl ho hc _ => Keeps.putObj (by omega) ho hc
      case own => exact fun s X Y row hs hg hr => ⟨hs.1.grown hg hsz (by omega) hr, hs.2.grown hg (by omega) hr⟩
      case ax =>
       rintro x a' s X Y row ⟨bx, h2, h3⟩ hg hr
       exact ⟨bx, blk_grown h2 hg (row_ne h2 fun r e => (hr r e).2), h3⟩
      case assign =>
       intro l pre x W K5 hI hK5
       have HI := am hI
       have HK5 := am hK5
       clear hI hK5
       have hx : encw x = #[.agg #[.int .i64 x.1.1, .int .u64 x.1.2]] := rfl
       rw [hx]
       clear hx
       gi_wp2
       have hB := below_alloc (Below.refl _ W) (.cells #[.int .i64 x.1.1, .int .u64 x.1.2] 124)
       refine HK5.out _ _ ((KeepsOthers.alloc W _).from _) (Keeps.ofBelow HI.out.1.hb.size hB) ⟨HI.out.1.below hB, HI.out.2.step hB⟩ ⟨W.heap.size, blk_new _ _, rfl⟩
      case body =>
       rintro l pre x a' W hl ⟨hO, hH⟩ ⟨bx, hX, rfl⟩ hlen
       obtain ⟨g, hg⟩ : ∃ g, g = foldw pre := ⟨_, rfl⟩
       rw [← hg] at hO
       have hnW := hO.hb.size
       have hx4 : bx ≠ b4 := blk_ne hX hO.h4 (by decide)
       have HGo := am hg
       have HO5 := am hO
       have HH5 := am hH
       have HX := am hX
       obtain ⟨er, hr⟩ := addw_tells g x
       have HR := am hr
       clear hO hH hX hg hr hlen
       unfold wide at HR
       refine wpIn_block ?_
       refine startIn_ (n := 11) (S := fun w' => w'.heap[b5]? = some (.cells #[c] 3 (0, 0)) ∧ w'.heap[b4]? = some (.cells (outA (outV F c.toNat g)) 143 (0, 0)) ∧ w'.heap[bx]? = some (.cells #[.int .i64 x.1.1, .int .u64 x.1.2] 124 (0, 0))) (ds := [10]) (flg 11 0) (by kernel_rfl) (by kernel_rfl) (by rintro ⟨_, _, h⟩; exact h) rfl rfl ⟨HO5.out.h5, HO5.out.h4, HX.out⟩ (fun hHeld => ?_)
       replace HO5 := am (HO5.out.below (below_drew (Below.refl _ W)))
       replace HH5 := am (HH5.out.step (below_drew (Below.refl _ W)))
       replace HX := b_d HX
       have HKF := am (KeepsOthers.drew W)
       have HKP : Aside0 (Keeps w.heap.size (fun b => b = bi ∨ b = bj ∨ b = bt) W W.drew) := ⟨Keeps.ofBelow hnW (below_drew (Below.refl _ W))⟩
       generalize W.drew = w5 at HO5 HH5 HX HKF HKP hHeld ⊢
       refine t_a 0 27 11 1 hHeld ?_ (hv := by rintro w' ⟨s0, s1, s2⟩; have x := bcv s0 0 (.int .i64 c) rfl; go_simp; with_reducible rfl)
       refine t_a 1 28 11 3 hHeld ?_ (hv := by rintro w' ⟨s0, s1, s2⟩; have x := bcv s0 0 (.int .i64 c) rfl; go_simp; with_reducible rfl)
       refine p_u 2 29 11 7 ?_
       refine t_a 3 30 11 15 hHeld ?_ (hv := by rintro w' ⟨s0, s1, s2⟩; obtain ⟨x1, x2, x3, x4⟩ := out_get c1 c6 s1; go_simp; with_reducible rfl)
       refine t_a 4 31 11 31 hHeld ?_ (hv := by rintro w' ⟨s0, s1, s2⟩; have x1 := bcv s2 0 (.int .i64 x.1.1) rfl; have x2 := bcv s2 1 (.int .u64 x.1.2) rfl; go_simp; with_reducible rfl)
       refine o_n 5 32 11 63 fun K hK => ?_
       refine g_s Tryz.func130 #[.agg #[.int .i64 g.1.1, .int .u64 g.1.2], .agg #[.int .i64 x.1.1, .int .u64 x.1.2]] ?_
       refine (HR.out w5 (HG.out.below HO5.out.hb)).mono ?_
       rintro e w6 ⟨rfl, hb⟩
       replace HKF := am (HKF.out.trans (KeepsOthers.ofBelow hb))
       replace HKP := am (HKP.out.trans (Keeps.ofBelow HO5.out.hb.size hb))
       replace HO5 := am (HO5.out.below hb)
       replace HH5 := am (HH5.out.step hb)
       replace HX := b_b HX hb
       clear hb hHeld
       refine ⟨_, rfl, ?_⟩
       refine hK.out _ _ ⟨HO5.out.h5, HO5.out.h4, HX.out⟩ (fun hHeld => ?_)
       clear hK K
       refine n_o 32 ?_
       refine p_u 6 26 11 127 ?_
       refine p_u 7 33 11 255 ?_
       refine p_u 8 34 11 511 ?_
       refine p_u 9 35 11 1023 ?_
       obtain ⟨u1, u2, u3, u4⟩ := out_get c1 c6 HO5.out.h4
       refine last_ (i := 10) (N := none) (flg 11 2047) rfl rfl (by kernel_rfl) (by decide) (fun K hK => ?_)
       refine s_k ((w6.setCell ⟨b4, c.toNat * 2, none⟩ (.int .i64 (addw g x).1.1)).setCell ⟨b4, c.toNat * 2 + 1, none⟩ (.int .u64 (addw g x).1.2)) ?_
       have q := (HO5.out.set4 n24 g4 (c.toNat * 2) (.int .i64 (addw g x).1.1)).set4 n24 g4 (c.toNat * 2 + 1) (.int .u64 (addw g x).1.2)
       rw [out_set F g (addw g x) c1 c6] at q
       have k1 := (Keeps.setCell (W := w6) (S := fun b => b = bi ∨ b = bj ∨ b = bt) g4 hS4 (c.toNat * 2) (.int .i64 (addw g x).1.1)).trans (Keeps.setCell g4 hS4 (c.toNat * 2 + 1) (.int .u64 (addw g x).1.2))
       have k2 := (KeepsOthers.setCell w6 ⟨b4, c.toNat * 2, none⟩ (.int .i64 (addw g x).1.1)).trans (KeepsOthers.setCell _ ⟨b4, c.toNat * 2 + 1, none⟩ (.int .u64 (addw g x).1.2))
       have k3 := blk_far (blk_far HX.out (p := ⟨b4, c.toNat * 2, none⟩) hx4 (.int .i64 (addw g x).1.1)) (p := ⟨b4, c.toNat * 2 + 1, none⟩) hx4 (.int .u64 (addw g x).1.2)
       replace HH5 := am (HH5.out.keeps (.inl rfl) (.inr (.inl rfl)) (.inr (.inr rfl)) k1)
       replace HKF := am (HKF.out.trans k2)
       replace HKP := am (HKP.out.trans k1)
       clear HO5 HX u1 u2 u3 u4 k1 k2 hHeld
       generalize (w6.setCell ⟨b4, c.toNat * 2, none⟩ (.int .i64 (addw g x).1.1)).setCell ⟨b4, c.toNat * 2 + 1, none⟩ (.int .u64 (addw g x).1.2) = w7 at q k3 HH5 HKF HKP ⊢
       have HO5 := am q
       have HX := am k3
       clear q k3
       refine hK.out _ _ ?_
       clear hK K
       refine d_n ?_
       exact ⟨HKF.out.from _, HKP.out, by rw [foldw_snoc, ← HGo.out]; exact HO5.out, HH5.out⟩
      case done =>
       rintro D xs W hD rfl ⟨hO, hH⟩ hKD
       have HO6 : Aside0 (Ow w b1 b2 b4 b5 #[m0, m1, m2, m3, m4, m5] #[(), .int .u64 0, (), .int .u64 0, (), .int .u64 0, (), .int .u64 0, (), .int .u64 0, (), .int .u64 0] (outA (outV F (c.toNat + 1) z0)) c (mark D :: ds) W.heap.size W) := ⟨⟨hO.h1, hO.h2, by rw [← outV_next, HFo.out]; exact hO.h4, hO.h5, hO.hm.push (by omega) (by omega) hKD, hO.hb⟩⟩
       clear hO hH hKD HO5 HH5
       have y5 := bcv HO6.out.h5 0 (.int .i64 c) rfl
       have f5 := bfz HO6.out.h5 0
       go_wp2_with fail
       refine HK2.out _ _ ⟨jz + 1, c + 1, _, _, _, _, _, _, _, _, _, _, _, _, _, _, _, _, _, _, _, _, _, _, _, _, _, _, _, _, _, _, _, _, _, rfl, ⟨by have := HJ.out; omega, by have := HJ.out; omega, by omega⟩, ⟨?_⟩⟩
       rw [show (c + 1).toNat = c.toNat + 1 by omega]
       exact (HO6.out.set5 g5 (c + 1)).up (by simp)
     go_wp2_with fail
     have e1 : wrap64 (iz + 1) = iz + 1 := by unfold wrap64; omega
     refine HK.out _ _ ⟨iz + 1, c, _, _, _, _, _, _, _, _, _, _, _, _, _, _, _, _, _, _, _, _, _, _, _, _, _, _, _, _, _, _, _, _, _, _, _, rfl, by have := HC.out; have := HJ.out; omega, HO⟩
   have hi3 : iz = 3 := by omega
   have hc6 : c0 = 6 := by have := HC.out; omega
   subst hi3 hc6
   have H2 := am HO.out.h2
   have H4 := am (show w'.heap[b4]? = some (.cells #[.int .i64 (F 0).1.1, .int .u64 (F 0).1.2, .int .i64 (F 1).1.1, .int .u64 (F 1).1.2, .int .i64 (F 2).1.1, .int .u64 (F 2).1.2, .int .i64 (F 3).1.1, .int .u64 (F 3).1.2, .int .i64 (F 4).1.1, .int .u64 (F 4).1.2, .int .i64 (F 5).1.1, .int .u64 (F 5).1.2] 143 (0, 0)) from HO.out.h4)
   have y40 := b_v H4 0 (.int .i64 (F 0).1.1) rfl
   have y41 := b_v H4 1 (.int .u64 (F 0).1.2) rfl
   have y42 := b_v H4 2 (.int .i64 (F 1).1.1) rfl
   have y43 := b_v H4 3 (.int .u64 (F 1).1.2) rfl
   have y44 := b_v H4 4 (.int .i64 (F 2).1.1) rfl
   have y45 := b_v H4 5 (.int .u64 (F 2).1.2) rfl
   have y46 := b_v H4 6 (.int .i64 (F 3).1.1) rfl
   have y47 := b_v H4 7 (.int .u64 (F 3).1.2) rfl
   have y48 := b_v H4 8 (.int .i64 (F 4).1.1) rfl
   have y49 := b_v H4 9 (.int .u64 (F 4).1.2) rfl
   have y410 := b_v H4 10 (.int .i64 (F 5).1.1) rfl
   have y411 := b_v H4 11 (.int .u64 (F 5).1.2) rfl
   have y20 := b_v H2 0 (.int .i64 0) rfl
   have f20 := b_z H2 0
   have y21 := b_v H2 1 (.int .u64 0) rfl
   have f21 := b_z H2 1
   have y22 := b_v H2 2 (.int .i64 0) rfl
   have f22 := b_z H2 2
   have y23 := b_v H2 3 (.int .u64 0) rfl
   have f23 := b_z H2 3
   have y24 := b_v H2 4 (.int .i64 0) rfl
   have f24 := b_z H2 4
   have y25 := b_v H2 5 (.int .u64 0) rfl
   have f25 := b_z H2 5
   have y26 := b_v H2 6 (.int .i64 0) rfl
   have f26 := b_z H2 6
   have y27 := b_v H2 7 (.int .u64 0) rfl
   have f27 := b_z H2 7
   have y28 := b_v H2 8 (.int .i64 0) rfl
   have f28 := b_z H2 8
   have y29 := b_v H2 9 (.int .u64 0) rfl
   have f29 := b_z H2 9
   have y210 := b_v H2 10 (.int .i64 0) rfl
   have f210 := b_z H2 10
   have y211 := b_v H2 11 (.int .u64 0) rfl
   have f211 := b_z H2 11
   go_wp2_with fail
   have hn := HO.out.hb.size
   obtain ⟨q, qb, qk⟩ := twelve_set H2.out g2 HO.out.hb (.int .i64 (F 0).1.1) (.int .u64 (F 0).1.2) (.int .i64 (F 1).1.1) (.int .u64 (F 1).1.2) (.int .i64 (F 2).1.1) (.int .u64 (F 2).1.2) (.int .i64 (F 3).1.1) (.int .u64 (F 3).1.2) (.int .i64 (F 4).1.1) (.int .u64 (F 4).1.2) (.int .i64 (F 5).1.1) (.int .u64 (F 5).1.2)
   refine leaves_marks ds w'.heap.size _ (HO.out.hm.keep (Nat.le_refl _) fun D _ hD => (qk D (fun e => by rw [e, H2.out] at hD; cases hD)).trans hD) (by have := qb.size; omega) (fun W' hW hc => ?_)
   exact ⟨_, results_ct rfl _ _ b2 143 _ (0, 0) _ rfl (hc _ _ _ _ q) Tryz.underlying143 rfl (by kernel_rfl), rfl, qb.trans hW⟩
end Go.Proofs.YtpdahkgandaabaaGreatDoor.Ch
