/- A part of the proof of the law TopNone of the top, where the package's tables hold what their initialisers lay. -/
import Derived.Deep.MidRow
import Derived.Shelf.Abstract
import Derived.Shelf.RegionOpen
import Derived.WalkKit
import Derived.LoopNIn
import Derived.LoopIn
import Derived.Outline
import Derived.Test.YtpdahkgandaabaaGreatDoorS01
import Derived.Test.YtpdahkgandaabaaGreatDoorS08
import Derived.Test.YtpdahkgandaabaaGreatDoorS09
import Derived.Test.YtpdahkgandaabaaGreatDoorS10
import Derived.Test.YtpdahkgandaabaaGreatDoorS11
import Derived.Test.YtpdahkgandaabaaGreatDoorS13
import Derived.Test.YtpdahkgandaabaaGreatDoorS14
namespace Go.Proofs.YtpdahkgandaabaaGreatDoor.Ch
open Go.RowKit Go.Proofs.YtpdahkgandaabaaGreatDoorW.PrintWords Go.Proofs.YtpdahkgandaabaaGreatDoorW.PrintLast Go.Proofs.YtpdahkgandaabaaGreatDoorW.PrintMore Go.Proofs.YtpdahkgandaabaaGreatDoor.PTopNames Go.Proofs.YtpdahkgandaabaaGreatDoor.Al
set_option linter.unusedVariables false
set_option linter.unusedSimpArgs false
set_option maxRecDepth 100000 in
set_option maxHeartbeats 4000000 in
theorem add_any (w : World) (f : Nat) (c : Cf) (last run : Int) (held : Bool) (hF : w.heap[f]? = some (.cells (feedV last run c) 101 (0, 0))) :
  Calls Tryz.prog 69 #[.pointer (some ⟨f, 0, none⟩), .bool held] w fun e w' => e = .returned (if held then vec c.l0 c.l1 c.l2 else vec c.q0 c.q1 c.q2) ∧ Below w.heap.size w w' := by
 have HF := am hF
 clear hF
 unfold vec
 cases held with
 | true =>
  go_enter Tryz.func69, Tryz.ntmps69
  go_upto_region 1 with fail
  replace HF := am (blk_alloc HF.out (.cells #[.int .i64 0, .int .i64 0, .int .i64 0] 26))
  have x4' := blk_new w (.cells #[.int .i64 0, .int .i64 0, .int .i64 0] 26)
  have HB := am (below_alloc (Below.refl w.heap.size w) (.cells #[.int .i64 0, .int .i64 0, .int .i64 0] 26))
  generalize w.alloc (.cells #[.int .i64 0, .int .i64 0, .int .i64 0] 26) = w1 at x4' HB HF ⊢
  obtain ⟨b4, h4⟩ : ∃ b, b = w.heap.size := ⟨_, rfl⟩
  have g4 : w.heap.size ≤ b4 := by omega
  rw [← h4] at x4' ⊢
  have H4 := am x4'
  clear x4' h4
  have yf0 := bcv HF.out 5 (.int .i64 c.l0) rfl
  have yf1 := bcv HF.out 6 (.int .i64 c.l1) rfl
  have yf2 := bcv HF.out 7 (.int .i64 c.l2) rfl
  have y40 := bcv H4.out 0 (.int .i64 0) rfl
  have f40 := bfz H4.out 0
  have y41 := bcv H4.out 1 (.int .i64 0) rfl
  have f41 := bfz H4.out 1
  have y42 := bcv H4.out 2 (.int .i64 0) rfl
  have f42 := bfz H4.out 2
  go_wp2_with fail
  obtain ⟨q, qb⟩ := three_set rfl H4.out g4 HB.out (.int .i64 c.l0) (.int .i64 c.l1) (.int .i64 c.l2)
  exact bodyPost_ret (results_cell_row rfl _ _ b4 26 _ (0, 0) _ rfl q Tryz.underlying26 rfl (by kernel_rfl)) rfl ⟨rfl, qb⟩
 | false =>
  go_enter Tryz.func69, Tryz.ntmps69
  go_upto_region 1 with fail
  replace HF := am (blk_alloc HF.out (.cells #[.int .i64 0, .int .i64 0, .int .i64 0] 26))
  have x4' := blk_new w (.cells #[.int .i64 0, .int .i64 0, .int .i64 0] 26)
  have HB := am (below_alloc (Below.refl w.heap.size w) (.cells #[.int .i64 0, .int .i64 0, .int .i64 0] 26))
  generalize w.alloc (.cells #[.int .i64 0, .int .i64 0, .int .i64 0] 26) = w1 at x4' HB HF ⊢
  obtain ⟨b4, h4⟩ : ∃ b, b = w.heap.size := ⟨_, rfl⟩
  have g4 : w.heap.size ≤ b4 := by omega
  rw [← h4] at x4' ⊢
  have H4 := am x4'
  clear x4' h4
  have yf0 := bcv HF.out 2 (.int .i64 c.q0) rfl
  have yf1 := bcv HF.out 3 (.int .i64 c.q1) rfl
  have yf2 := bcv HF.out 4 (.int .i64 c.q2) rfl
  have y40 := bcv H4.out 0 (.int .i64 0) rfl
  have f40 := bfz H4.out 0
  have y41 := bcv H4.out 1 (.int .i64 0) rfl
  have f41 := bfz H4.out 1
  have y42 := bcv H4.out 2 (.int .i64 0) rfl
  have f42 := bfz H4.out 2
  go_wp2_with fail
  obtain ⟨q, qb⟩ := three_set rfl H4.out g4 HB.out (.int .i64 c.q0) (.int .i64 c.q1) (.int .i64 c.q2)
  exact bodyPost_ret (results_cell_row rfl _ _ b4 26 _ (0, 0) _ rfl q Tryz.underlying26 rfl (by kernel_rfl)) rfl ⟨rfl, qb⟩
set_option maxRecDepth 100000 in
set_option maxHeartbeats 4000000 in
theorem nine_set {w0 w : World} {b : Nat} (hX : w.heap[b]? = some (.cells #[.int .i64 0, .int .i64 0, .int .i64 0, .int .i64 0, .int .i64 0, .int .i64 0, .int .i64 0, .int .i64 0, .int .i64 0] 50 (0, 0))) (g : w0.heap.size ≤ b) (hB : Below w0.heap.size w0 w) (x0 x1 x2 x3 x4 x5 x6 x7 x8 : Value) :
  (((((((((w.setCell ⟨b, 0, none⟩ x0).setCell ⟨b, 1, none⟩ x1).setCell ⟨b, 2, none⟩ x2).setCell ⟨b, 3, none⟩ x3).setCell ⟨b, 4, none⟩ x4).setCell ⟨b, 5, none⟩ x5).setCell ⟨b, 6, none⟩ x6).setCell ⟨b, 7, none⟩ x7).setCell ⟨b, 8, none⟩ x8).heap[b]? = some (.cells #[x0, x1, x2, x3, x4, x5, x6, x7, x8] 50 (0, 0)) ∧ Below w0.heap.size w0 (((((((((w.setCell ⟨b, 0, none⟩ x0).setCell ⟨b, 1, none⟩ x1).setCell ⟨b, 2, none⟩ x2).setCell ⟨b, 3, none⟩ x3).setCell ⟨b, 4, none⟩ x4).setCell ⟨b, 5, none⟩ x5).setCell ⟨b, 6, none⟩ x6).setCell ⟨b, 7, none⟩ x7).setCell ⟨b, 8, none⟩ x8) := by
 have h1 : (w.setCell ⟨b, 0, none⟩ x0).heap[b]? = some (.cells #[x0, .int .i64 0, .int .i64 0, .int .i64 0, .int .i64 0, .int .i64 0, .int .i64 0, .int .i64 0, .int .i64 0] 50 (0, 0)) := blk_set hX 0 x0
 have h2 : ((w.setCell ⟨b, 0, none⟩ x0).setCell ⟨b, 1, none⟩ x1).heap[b]? = some (.cells #[x0, x1, .int .i64 0, .int .i64 0, .int .i64 0, .int .i64 0, .int .i64 0, .int .i64 0, .int .i64 0] 50 (0, 0)) := blk_set h1 1 x1
 have h3 : (((w.setCell ⟨b, 0, none⟩ x0).setCell ⟨b, 1, none⟩ x1).setCell ⟨b, 2, none⟩ x2).heap[b]? = some (.cells #[x0, x1, x2, .int .i64 0, .int .i64 0, .int .i64 0, .int .i64 0, .int .i64 0, .int .i64 0] 50 (0, 0)) := blk_set h2 2 x2
 have h4 : ((((w.setCell ⟨b, 0, none⟩ x0).setCell ⟨b, 1, none⟩ x1).setCell ⟨b, 2, none⟩ x2).setCell ⟨b, 3, none⟩ x3).heap[b]? = some (.cells #[x0, x1, x2, x3, .int .i64 0, .int .i64 0, .int .i64 0, .int .i64 0, .int .i64 0] 50 (0, 0)) := blk_set h3 3 x3
 have h5 : (((((w.setCell ⟨b, 0, none⟩ x0).setCell ⟨b, 1, none⟩ x1).setCell ⟨b, 2, none⟩ x2).setCell ⟨b, 3, none⟩ x3).setCell ⟨b, 4, none⟩ x4).heap[b]? = some (.cells #[x0, x1, x2, x3, x4, .int .i64 0, .int .i64 0, .int .i64 0, .int .i64 0] 50 (0, 0)) := blk_set h4 4 x4
 have h6 : ((((((w.setCell ⟨b, 0, none⟩ x0).setCell ⟨b, 1, none⟩ x1).setCell ⟨b, 2, none⟩ x2).setCell ⟨b, 3, none⟩ x3).setCell ⟨b, 4, none⟩ x4).setCell ⟨b, 5, none⟩ x5).heap[b]? = some (.cells #[x0, x1, x2, x3, x4, x5, .int .i64 0, .int .i64 0, .int .i64 0] 50 (0, 0)) := blk_set h5 5 x5
 have h7 : (((((((w.setCell ⟨b, 0, none⟩ x0).setCell ⟨b, 1, none⟩ x1).setCell ⟨b, 2, none⟩ x2).setCell ⟨b, 3, none⟩ x3).setCell ⟨b, 4, none⟩ x4).setCell ⟨b, 5, none⟩ x5).setCell ⟨b, 6, none⟩ x6).heap[b]? = some (.cells #[x0, x1, x2, x3, x4, x5, x6, .int .i64 0, .int .i64 0] 50 (0, 0)) := blk_set h6 6 x6
 have h8 : ((((((((w.setCell ⟨b, 0, none⟩ x0).setCell ⟨b, 1, none⟩ x1).setCell ⟨b, 2, none⟩ x2).setCell ⟨b, 3, none⟩ x3).setCell ⟨b, 4, none⟩ x4).setCell ⟨b, 5, none⟩ x5).setCell ⟨b, 6, none⟩ x6).setCell ⟨b, 7, none⟩ x7).heap[b]? = some (.cells #[x0, x1, x2, x3, x4, x5, x6, x7, .int .i64 0] 50 (0, 0)) := blk_set h7 7 x7
 have h9 : (((((((((w.setCell ⟨b, 0, none⟩ x0).setCell ⟨b, 1, none⟩ x1).setCell ⟨b, 2, none⟩ x2).setCell ⟨b, 3, none⟩ x3).setCell ⟨b, 4, none⟩ x4).setCell ⟨b, 5, none⟩ x5).setCell ⟨b, 6, none⟩ x6).setCell ⟨b, 7, none⟩ x7).setCell ⟨b, 8, none⟩ x8).heap[b]? = some (.cells #[x0, x1, x2, x3, x4, x5, x6, x7, x8] 50 (0, 0)) := blk_set h8 8 x8
 exact ⟨h9, (Below.setCell (Below.setCell (Below.setCell (Below.setCell (Below.setCell (Below.setCell (Below.setCell (Below.setCell (Below.setCell hB (p := ⟨b, 0, none⟩) g x0) (p := ⟨b, 1, none⟩) g x1) (p := ⟨b, 2, none⟩) g x2) (p := ⟨b, 3, none⟩) g x3) (p := ⟨b, 4, none⟩) g x4) (p := ⟨b, 5, none⟩) g x5) (p := ⟨b, 6, none⟩) g x6) (p := ⟨b, 7, none⟩) g x7) (p := ⟨b, 8, none⟩) g x8)⟩
set_option maxRecDepth 100000 in
theorem build50 (r0 r1 r2 q0 q1 q2 q3 q4 q5 : Int) (w : World) : (Instr.build 50 #[(0, .agg #[.int .i64 r0, .int .i64 r1, .int .i64 r2]), (1, .agg #[.int .i64 q0, .int .i64 q1, .int .i64 q2, .int .i64 q3, .int .i64 q4, .int .i64 q5])]).run Tryz.prog w = .ok (.agg #[.int .i64 r0, .int .i64 r1, .int .i64 r2, .int .i64 q0, .int .i64 q1, .int .i64 q2, .int .i64 q3, .int .i64 q4, .int .i64 q5]) w := by
 kernel_rfl
set_option maxRecDepth 100000 in
set_option maxHeartbeats 4000000 in
theorem store9 {op : Oper} {a : Act} {w : World} (x y : Operand) (ho : op.op = .store 50 x y) (b : Nat) (x0 x1 x2 x3 x4 x5 x6 x7 x8 : Int) (hx : a.eval x = .pointer (some ⟨b, 0, none⟩)) (hy : a.eval y = .agg #[.int .i64 x0, .int .i64 x1, .int .i64 x2, .int .i64 x3, .int .i64 x4, .int .i64 x5, .int .i64 x6, .int .i64 x7, .int .i64 x8]) (hX : w.heap[b]? = some (.cells #[.int .i64 0, .int .i64 0, .int .i64 0, .int .i64 0, .int .i64 0, .int .i64 0, .int .i64 0, .int .i64 0, .int .i64 0] 50 (0, 0))) :
  (execOp a.eval op).run Tryz.prog w = .ok .skip (((((((((w.setCell ⟨b, 0, none⟩ (.int .i64 x0)).setCell ⟨b, 1, none⟩ (.int .i64 x1)).setCell ⟨b, 2, none⟩ (.int .i64 x2)).setCell ⟨b, 3, none⟩ (.int .i64 x3)).setCell ⟨b, 4, none⟩ (.int .i64 x4)).setCell ⟨b, 5, none⟩ (.int .i64 x5)).setCell ⟨b, 6, none⟩ (.int .i64 x6)).setCell ⟨b, 7, none⟩ (.int .i64 x7)).setCell ⟨b, 8, none⟩ (.int .i64 x8)) := by
 have ht : w.there b 0 (#[.int .i64 x0, .int .i64 x1, .int .i64 x2, .int .i64 x3, .int .i64 x4, .int .i64 x5, .int .i64 x6, .int .i64 x7, .int .i64 x8] : Array Value).size := fun j hj => ⟨by rw [blk_cell hX (0 + j)]; simp at hj ⊢; omega, bfz hX _⟩
 have h := run_storeVar_mid (P := Tryz.prog) w b 0 50 (#[.int .i64 x0, .int .i64 x1, .int .i64 x2, .int .i64 x3, .int .i64 x4, .int .i64 x5, .int .i64 x6, .int .i64 x7, .int .i64 x8] : Array Value) ht (by kernel_rfl) (by simp [Value.oneCell'])
 unfold execOp
 simp only [ho, hx, hy, Instr.storeAt, Instr.sureAddr, Sem.run_bind, Sem.run_pure, Result.andThen_ok, h]
 rfl
theorem yield50 {op : Oper} {a : Act} (x y : Operand) (ho : op.op = .build 50 #[(0, x), (1, y)]) (r0 r1 r2 q0 q1 q2 q3 q4 q5 : Int) (hx : a.eval x = .agg #[.int .i64 r0, .int .i64 r1, .int .i64 r2]) (hy : a.eval y = .agg #[.int .i64 q0, .int .i64 q1, .int .i64 q2, .int .i64 q3, .int .i64 q4, .int .i64 q5]) (w : World) :
  (execOp a.eval op).run Tryz.prog w = .ok (.value (.agg #[.int .i64 r0, .int .i64 r1, .int .i64 r2, .int .i64 q0, .int .i64 q1, .int .i64 q2, .int .i64 q3, .int .i64 q4, .int .i64 q5])) w := by
 have hb := build50 r0 r1 r2 q0 q1 q2 q3 q4 q5 w
 unfold execOp
 simp only [ho, List.map_toArray, List.map_cons, List.map_nil, hx, hy, Sem.run_bind, Sem.run_pure, hb, Result.andThen_ok]
def gsV (s : Gs) : Value := .agg #[.int .i64 s.x0, .int .i64 s.x1, .int .i64 s.x2, .int .i64 s.p0, .int .i64 s.p1, .int .i64 s.p2, .int .i64 s.p3, .int .i64 s.p4, .int .i64 s.p5]
set_option maxRecDepth 100000 in
set_option maxHeartbeats 4000000 in
theorem kept_ex (c : Cf) (x0 x1 x2 p0 p1 p2 p3 p4 p5 : Int) : ∃ r : Gs, ∀ (w : World) (bg f gr : Nat) (s : Gs) (v : Value) (mode since : Int), G w → w.heap[bg]? = some (.cells (chanV s c f gr v mode since) 56 (0, 0)) →
  Calls Tryz.prog 70 #[.pointer (some ⟨bg, 0, none⟩), vec x0 x1 x2, sym p0 p1 p2 p3 p4 p5] w fun e w' => e = .returned (gsV r) ∧ Below w.heap.size w w' := by
 obtain ⟨q0, q1, q2, q3, q4, q5, e, ht⟩ := tame_tells p0 p1 p2 p3 p4 p5 c.f0 c.f1 c.f2 c.c0 c.c1 c.c2
 obtain ⟨r0, r1, r2, hk⟩ := kept1_tells x0 x1 x2 c.b0 c.b1 c.b2
 have HT := am ht
 have HK := am hk
 clear ht hk
 unfold sym vec at *
 refine ⟨⟨r0, r1, r2, q0, q1, q2, q3, q4, q5⟩, fun w bg f gr s v mode since hG hg => ?_⟩
 have Hg := am hg
 clear hg
 unfold gsV
 have HG := am hG
 clear hG
 go_enter Tryz.func70, Tryz.ntmps70
 go_upto_region 1 with fail
 obtain ⟨x4', x5', x6', hB⟩ := blocks3 w #[.int .i64 x0, .int .i64 x1, .int .i64 x2] #[.int .i64 p0, .int .i64 p1, .int .i64 p2, .int .i64 p3, .int .i64 p4, .int .i64 p5] #[.int .i64 0, .int .i64 0, .int .i64 0, .int .i64 0, .int .i64 0, .int .i64 0, .int .i64 0, .int .i64 0, .int .i64 0] 26 46 50
 generalize ((w.alloc (.cells #[.int .i64 x0, .int .i64 x1, .int .i64 x2] 26)).alloc (.cells #[.int .i64 p0, .int .i64 p1, .int .i64 p2, .int .i64 p3, .int .i64 p4, .int .i64 p5] 46)).alloc (.cells #[.int .i64 0, .int .i64 0, .int .i64 0, .int .i64 0, .int .i64 0, .int .i64 0, .int .i64 0, .int .i64 0, .int .i64 0] 50) = w1 at x4' x5' x6' hB ⊢
 obtain ⟨b4, h4⟩ : ∃ b, b = w.heap.size := ⟨_, rfl⟩
 obtain ⟨b5, h5⟩ : ∃ b, b = w.heap.size + 1 := ⟨_, rfl⟩
 obtain ⟨b6, h6⟩ : ∃ b, b = w.heap.size + 1 + 1 := ⟨_, rfl⟩
 have g4 : w.heap.size ≤ b4 := by omega
 have g5 : w.heap.size ≤ b5 := by omega
 have g6 : w.heap.size ≤ b6 := by omega
 have n4_5 : b4 ≠ b5 := by omega
 have n4_6 : b4 ≠ b6 := by omega
 have n5_4 : b5 ≠ b4 := by omega
 have n5_6 : b5 ≠ b6 := by omega
 have n6_4 : b6 ≠ b4 := by omega
 have n6_5 : b6 ≠ b5 := by omega
 rw [← h6, ← h5, ← h4]
 rw [← h6] at x6'
 rw [← h5] at x5'
 rw [← h4] at x4'
 have H4 := am x4'
 have H5 := am x5'
 have H6 := am x6'
 have HB := am hB
 clear x4' x5' x6' hB h4 h5 h6
 replace Hg := am (blk_below Hg.out HB.out)
 have ng_6 := blk_ne Hg.out H6.out (by decide)
 apply cut1_ (fun b7 W => w.heap.size ≤ b7 ∧ Aside0 (W.heap[b4]? = some (.cells #[.int .i64 x0, .int .i64 x1, .int .i64 x2] 26 (0, 0))) ∧ Aside0 (W.heap[b6]? = some (.cells #[.int .i64 0, .int .i64 0, .int .i64 0, .int .i64 0, .int .i64 0, .int .i64 0, .int .i64 0, .int .i64 0, .int .i64 0] 50 (0, 0))) ∧ Aside0 (W.heap[bg]? = some (.cells (chanV s c f gr v mode since) 56 (0, 0))) ∧ Aside0 (W.heap[b7]? = some (.cells #[.int .i64 q0, .int .i64 q1, .int .i64 q2, .int .i64 q3, .int .i64 q4, .int .i64 q5] 46 (0, 0))) ∧ Aside0 (Below w.heap.size w W))
 ·
  intro join
  refine start_ (n := 18) (S := fun w' => w'.heap[b5]? = some (.cells #[.int .i64 p0, .int .i64 p1, .int .i64 p2, .int .i64 p3, .int .i64 p4, .int .i64 p5] 46 (0, 0)) ∧ w'.heap[bg]? = some (.cells (chanV s c f gr v mode since) 56 (0, 0))) (ds := []) (flg 18 0) (by kernel_rfl) rfl rfl ⟨H5.out, Hg.out⟩ (fun hHeld => ?_)
  replace H4 := am (blk_drew H4.out)
  replace H5 := am (blk_drew H5.out)
  replace H6 := am (blk_drew H6.out)
  replace Hg := am (blk_drew Hg.out)
  replace HB := am (below_drew HB.out)
  generalize w1.drew = v1 at H4 H5 H6 Hg HB hHeld ⊢
  refine take_ (i := 0) (N := (some 10)) (v := ?_) (a' := ?_) (flg 18 1) rfl rfl (by kernel_rfl) (fun _ _ _ h => h) (Or.inl ⟨by rfl, ?_⟩) hHeld ?_ ?_
  rotate_left
  ·
   rintro w' ⟨s0, s1⟩
   have x0 := bcv s0 0 (.int .i64 p0) rfl
   have x1 := bcv s0 1 (.int .i64 p1) rfl
   have x2 := bcv s0 2 (.int .i64 p2) rfl
   have x3 := bcv s0 3 (.int .i64 p3) rfl
   have x4 := bcv s0 4 (.int .i64 p4) rfl
   have x5 := bcv s0 5 (.int .i64 p5) rfl
   go_simp
   with_reducible rfl
  rotate_left
  ·
   simp only [pw]
   rfl
  refine pure_ (i := 1) (N := (some 11)) (v := ?_) (a' := ?_) (flg 18 3) rfl rfl (by kernel_rfl) (fun _ _ _ h => h) (Or.inl ⟨by rfl, ?_⟩) ?_ ?_
  rotate_left
  ·
   intro w'
   go_simp
   with_reducible rfl
  rotate_left
  ·
   simp only [pw]
   rfl
  refine pure_ (i := 2) (N := (some 12)) (v := ?_) (a' := ?_) (flg 18 7) rfl rfl (by kernel_rfl) (fun _ _ _ h => h) (Or.inl ⟨by rfl, ?_⟩) ?_ ?_
  rotate_left
  ·
   intro w'
   go_simp
   with_reducible rfl
  rotate_left
  ·
   simp only [pw]
   rfl
  refine pure_ (i := 3) (N := (some 13)) (v := ?_) (a' := ?_) (flg 18 15) rfl rfl (by kernel_rfl) (fun _ _ _ h => h) (Or.inl ⟨by rfl, ?_⟩) ?_ ?_
  rotate_left
  ·
   intro w'
   go_simp
   with_reducible rfl
  rotate_left
  ·
   simp only [pw]
   rfl
  refine pure_ (i := 4) (N := (some 14)) (v := ?_) (a' := ?_) (flg 18 31) rfl rfl (by kernel_rfl) (fun _ _ _ h => h) (Or.inl ⟨by rfl, ?_⟩) ?_ ?_
  rotate_left
  ·
   intro w'
   go_simp
   with_reducible rfl
  rotate_left
  ·
   simp only [pw]
   rfl
  refine take_ (i := 5) (N := (some 15)) (v := ?_) (a' := ?_) (flg 18 63) rfl rfl (by kernel_rfl) (fun _ _ _ h => h) (Or.inl ⟨by rfl, ?_⟩) hHeld ?_ ?_
  rotate_left
  ·
   rintro w' ⟨s0, s1⟩
   have x0 := bcv s1 20 (.int .i64 c.f0) rfl
   have x1 := bcv s1 21 (.int .i64 c.f1) rfl
   have x2 := bcv s1 22 (.int .i64 c.f2) rfl
   go_simp
   with_reducible rfl
  rotate_left
  ·
   simp only [pw]
   rfl
  refine pure_ (i := 6) (N := (some 16)) (v := ?_) (a' := ?_) (flg 18 127) rfl rfl (by kernel_rfl) (fun _ _ _ h => h) (Or.inl ⟨by rfl, ?_⟩) ?_ ?_
  rotate_left
  ·
   intro w'
   go_simp
   with_reducible rfl
  rotate_left
  ·
   simp only [pw]
   rfl
  refine pure_ (i := 7) (N := (some 17)) (v := ?_) (a' := ?_) (flg 18 255) rfl rfl (by kernel_rfl) (fun _ _ _ h => h) (Or.inl ⟨by rfl, ?_⟩) ?_ ?_
  rotate_left
  ·
   intro w'
   go_simp
   with_reducible rfl
  rotate_left
  ·
   simp only [pw]
   rfl
  refine pure_ (i := 8) (N := (some 18)) (v := ?_) (a' := ?_) (flg 18 511) rfl rfl (by kernel_rfl) (fun _ _ _ h => h) (Or.inl ⟨by rfl, ?_⟩) ?_ ?_
  rotate_left
  ·
   intro w'
   go_simp
   with_reducible rfl
  rotate_left
  ·
   simp only [pw]
   rfl
  refine pure_ (i := 9) (N := (some 19)) (v := ?_) (a' := ?_) (flg 18 1023) rfl rfl (by kernel_rfl) (fun _ _ _ h => h) (Or.inl ⟨by rfl, ?_⟩) ?_ ?_
  rotate_left
  ·
   intro w'
   go_simp
   with_reducible rfl
  rotate_left
  ·
   simp only [pw]
   rfl
  refine take_ (i := 10) (N := (some 20)) (v := ?_) (a' := ?_) (flg 18 2047) rfl rfl (by kernel_rfl) (fun _ _ _ h => h) (Or.inl ⟨by rfl, ?_⟩) hHeld ?_ ?_
  rotate_left
  ·
   rintro w' ⟨s0, s1⟩
   have x0 := bcv s1 23 (.int .i64 c.c0) rfl
   have x1 := bcv s1 24 (.int .i64 c.c1) rfl
   have x2 := bcv s1 25 (.int .i64 c.c2) rfl
   go_simp
   with_reducible rfl
  rotate_left
  ·
   simp only [pw]
   rfl
  refine two_ (i := 11) (j := 15) (Ni := (some 21)) (Nj := (some 7)) (flg 18 4095) (flg 18 34815) rfl rfl rfl rfl (by kernel_rfl) (by decide) (by decide) (fun K hK => ?_) (fun K hK => ?_)
  ·
   skip
   refine goes_ Tryz.func101 (by kernel_rfl) rfl #[.agg #[.int .i64 p0, .int .i64 p1, .int .i64 p2, .int .i64 p3, .int .i64 p4, .int .i64 p5], .agg #[.int .i64 c.f0, .int .i64 c.f1, .int .i64 c.f2], .agg #[.int .i64 c.c0, .int .i64 c.c1, .int .i64 c.c2]] (by rfl) rfl rfl (by (try simp only [List.map_toArray, List.map_cons, List.map_nil]); first | done | rfl) ?_
   refine (HT.out v1 (HG.out.below HB.out)).mono ?_
   rintro e v2 ⟨rfl, hb⟩
   replace H4 := am (blk_below H4.out hb)
   replace H5 := am (blk_below H5.out hb)
   replace H6 := am (blk_below H6.out hb)
   replace Hg := am (blk_below Hg.out hb)
   replace HB := am (below_step HB.out hb)
   clear hb hHeld
   refine ⟨_, rfl, ?_⟩
   refine hK.out _ _ ⟨H5.out, Hg.out⟩ (fun hHeld => ?_)
   clear hK K
   refine norm_ (a' := ?_) ?_ ?_
   rotate_left
   ·
    show Act.put _ (some 21) _ = _
    simp only [pw]
    rfl
   refine pure_ (i := 12) (N := (some 9)) (v := ?_) (a' := ?_) (flg 18 8191) rfl rfl (by kernel_rfl) (fun _ _ _ h => h) (Or.inl ⟨by rfl, ?_⟩) ?_ ?_
   rotate_left
   ·
    intro w'
    go_simp
    with_reducible rfl
   rotate_left
   ·
    simp only [pw]
    rfl
   refine pure_ (i := 13) (N := (some 22)) (v := ?_) (a' := ?_) (flg 18 16383) rfl rfl (by kernel_rfl) (fun _ _ _ h => h) (Or.inl ⟨by rfl, ?_⟩) ?_ ?_
   rotate_left
   ·
    intro w'
    go_simp
    with_reducible rfl
   rotate_left
   ·
    simp only [pw]
    rfl
   refine pure_ (i := 14) (N := (some 23)) (v := ?_) (a' := ?_) (flg 18 32767) rfl rfl (by kernel_rfl) (fun _ _ _ h => h) (Or.inl ⟨by rfl, ?_⟩) ?_ ?_
   rotate_left
   ·
    intro w'
    go_simp
    with_reducible rfl
   rotate_left
   ·
    simp only [pw]
    rfl
   refine one_ (i := 15) (N := (some 7)) (flg 18 65535) rfl rfl (by kernel_rfl) (by decide) (fun K hK => ?_)
   refine event_step (v := .pointer (some ⟨v2.heap.size, 0, none⟩)) (w1 := v2.alloc (.cells #[.int .i64 0, .int .i64 0, .int .i64 0, .int .i64 0, .int .i64 0, .int .i64 0] 46)) (by rfl) (by first | (go_simp; done) | (go_simp; rfl)) ?_
   have n4_7 : b4 ≠ v2.heap.size := Nat.ne_of_lt (blk_lt H4.out)
   have n5_7 : b5 ≠ v2.heap.size := Nat.ne_of_lt (blk_lt H5.out)
   have n6_7 : b6 ≠ v2.heap.size := Nat.ne_of_lt (blk_lt H6.out)
   have ng_7 : bg ≠ v2.heap.size := Nat.ne_of_lt (blk_lt Hg.out)
   replace H4 := am (blk_alloc H4.out (.cells #[.int .i64 0, .int .i64 0, .int .i64 0, .int .i64 0, .int .i64 0, .int .i64 0] 46))
   replace H5 := am (blk_alloc H5.out (.cells #[.int .i64 0, .int .i64 0, .int .i64 0, .int .i64 0, .int .i64 0, .int .i64 0] 46))
   replace H6 := am (blk_alloc H6.out (.cells #[.int .i64 0, .int .i64 0, .int .i64 0, .int .i64 0, .int .i64 0, .int .i64 0] 46))
   replace Hg := am (blk_alloc Hg.out (.cells #[.int .i64 0, .int .i64 0, .int .i64 0, .int .i64 0, .int .i64 0, .int .i64 0] 46))
   have H7 := am (blk_new v2 (.cells #[.int .i64 0, .int .i64 0, .int .i64 0, .int .i64 0, .int .i64 0, .int .i64 0] 46))
   have g7 : w.heap.size ≤ v2.heap.size := HB.out.size
   replace HB := am (below_alloc HB.out (.cells #[.int .i64 0, .int .i64 0, .int .i64 0, .int .i64 0, .int .i64 0, .int .i64 0] 46))
   generalize v2.alloc (.cells #[.int .i64 0, .int .i64 0, .int .i64 0, .int .i64 0, .int .i64 0, .int .i64 0] 46) = v3 at H4 H5 H6 Hg H7 HB ⊢
   generalize v2.heap.size = b7 at H7 g7 n4_7 n5_7 n6_7 ng_7 ⊢
   clear hHeld
   refine hK.out _ _ ⟨H5.out, Hg.out⟩ (fun hHeld => ?_)
   clear hK K
   refine norm_ (a' := ?_) ?_ ?_
   rotate_left
   ·
    show Act.put _ (some 7) _ = _
    simp only [pw]
    rfl
   have y70 := bcv H7.out 0 (.int .i64 0) rfl
   have f70 := bfz H7.out 0
   have y71 := bcv H7.out 1 (.int .i64 0) rfl
   have f71 := bfz H7.out 1
   have y72 := bcv H7.out 2 (.int .i64 0) rfl
   have f72 := bfz H7.out 2
   have y73 := bcv H7.out 3 (.int .i64 0) rfl
   have f73 := bfz H7.out 3
   have y74 := bcv H7.out 4 (.int .i64 0) rfl
   have f74 := bfz H7.out 4
   have y75 := bcv H7.out 5 (.int .i64 0) rfl
   have f75 := bfz H7.out 5
   refine one_ (i := 16) (N := none) (flg 18 131071) rfl rfl (by kernel_rfl) (by decide) (fun K hK => ?_)
   refine skip_ (w1 := (((((v3.setCell ⟨b7, 0, none⟩ (.int .i64 q0)).setCell ⟨b7, 1, none⟩ (.int .i64 q1)).setCell ⟨b7, 2, none⟩ (.int .i64 q2)).setCell ⟨b7, 3, none⟩ (.int .i64 q3)).setCell ⟨b7, 4, none⟩ (.int .i64 q4)).setCell ⟨b7, 5, none⟩ (.int .i64 q5)) (by rfl) rfl (by first | (go_simp; done) | (go_simp; rfl)) ?_
   obtain ⟨q, qb⟩ := six_set rfl H7.out g7 HB.out (.int .i64 q0) (.int .i64 q1) (.int .i64 q2) (.int .i64 q3) (.int .i64 q4) (.int .i64 q5)
   have qo0 := (blk_far (blk_far (blk_far (blk_far (blk_far (blk_far H4.out (p := ⟨b7, 0, none⟩) n4_7 (.int .i64 q0)) (p := ⟨b7, 1, none⟩) n4_7 (.int .i64 q1)) (p := ⟨b7, 2, none⟩) n4_7 (.int .i64 q2)) (p := ⟨b7, 3, none⟩) n4_7 (.int .i64 q3)) (p := ⟨b7, 4, none⟩) n4_7 (.int .i64 q4)) (p := ⟨b7, 5, none⟩) n4_7 (.int .i64 q5))
   have qo1 := (blk_far (blk_far (blk_far (blk_far (blk_far (blk_far H5.out (p := ⟨b7, 0, none⟩) n5_7 (.int .i64 q0)) (p := ⟨b7, 1, none⟩) n5_7 (.int .i64 q1)) (p := ⟨b7, 2, none⟩) n5_7 (.int .i64 q2)) (p := ⟨b7, 3, none⟩) n5_7 (.int .i64 q3)) (p := ⟨b7, 4, none⟩) n5_7 (.int .i64 q4)) (p := ⟨b7, 5, none⟩) n5_7 (.int .i64 q5))
   have qo2 := (blk_far (blk_far (blk_far (blk_far (blk_far (blk_far H6.out (p := ⟨b7, 0, none⟩) n6_7 (.int .i64 q0)) (p := ⟨b7, 1, none⟩) n6_7 (.int .i64 q1)) (p := ⟨b7, 2, none⟩) n6_7 (.int .i64 q2)) (p := ⟨b7, 3, none⟩) n6_7 (.int .i64 q3)) (p := ⟨b7, 4, none⟩) n6_7 (.int .i64 q4)) (p := ⟨b7, 5, none⟩) n6_7 (.int .i64 q5))
   have qo3 := (blk_far (blk_far (blk_far (blk_far (blk_far (blk_far Hg.out (p := ⟨b7, 0, none⟩) ng_7 (.int .i64 q0)) (p := ⟨b7, 1, none⟩) ng_7 (.int .i64 q1)) (p := ⟨b7, 2, none⟩) ng_7 (.int .i64 q2)) (p := ⟨b7, 3, none⟩) ng_7 (.int .i64 q3)) (p := ⟨b7, 4, none⟩) ng_7 (.int .i64 q4)) (p := ⟨b7, 5, none⟩) ng_7 (.int .i64 q5))
   clear hHeld y70 f70 y71 f71 y72 f72 y73 f73 y74 f74 y75 f75 H7 HB H4 H5 H6 Hg
   generalize (((((v3.setCell ⟨b7, 0, none⟩ (.int .i64 q0)).setCell ⟨b7, 1, none⟩ (.int .i64 q1)).setCell ⟨b7, 2, none⟩ (.int .i64 q2)).setCell ⟨b7, 3, none⟩ (.int .i64 q3)).setCell ⟨b7, 4, none⟩ (.int .i64 q4)).setCell ⟨b7, 5, none⟩ (.int .i64 q5) = v4 at q qb qo0 qo1 qo2 qo3 ⊢
   have H7 := am q
   have HB := am qb
   have H4 := am qo0
   have H5 := am qo1
   have H6 := am qo2
   have Hg := am qo3
   clear q qb qo0 qo1 qo2 qo3
   refine hK.out _ _ ⟨H5.out, Hg.out⟩ (fun hHeld => ?_)
   clear hK K
   refine pure_ (i := 17) (N := (some 8)) (v := ?_) (a' := ?_) (flg 18 262143) rfl rfl (by kernel_rfl) (fun _ _ _ h => h) (Or.inl ⟨by rfl, ?_⟩) ?_ ?_
   rotate_left
   ·
    intro w'
    go_simp
    with_reducible rfl
   rotate_left
   ·
    simp only [pw]
    rfl
   refine done_ (by kernel_rfl) ?_
   have g7w : w.heap.size ≤ b7 := g7
   exact join b7 v4 ⟨g7w, H4, H6, Hg, H7, HB⟩
  ·
   skip
   refine event_step (v := .pointer (some ⟨v1.heap.size, 0, none⟩)) (w1 := v1.alloc (.cells #[.int .i64 0, .int .i64 0, .int .i64 0, .int .i64 0, .int .i64 0, .int .i64 0] 46)) (by rfl) (by first | (go_simp; done) | (go_simp; rfl)) ?_
   have n4_7 : b4 ≠ v1.heap.size := Nat.ne_of_lt (blk_lt H4.out)
   have n5_7 : b5 ≠ v1.heap.size := Nat.ne_of_lt (blk_lt H5.out)
   have n6_7 : b6 ≠ v1.heap.size := Nat.ne_of_lt (blk_lt H6.out)
   have ng_7 : bg ≠ v1.heap.size := Nat.ne_of_lt (blk_lt Hg.out)
   replace H4 := am (blk_alloc H4.out (.cells #[.int .i64 0, .int .i64 0, .int .i64 0, .int .i64 0, .int .i64 0, .int .i64 0] 46))
   replace H5 := am (blk_alloc H5.out (.cells #[.int .i64 0, .int .i64 0, .int .i64 0, .int .i64 0, .int .i64 0, .int .i64 0] 46))
   replace H6 := am (blk_alloc H6.out (.cells #[.int .i64 0, .int .i64 0, .int .i64 0, .int .i64 0, .int .i64 0, .int .i64 0] 46))
   replace Hg := am (blk_alloc Hg.out (.cells #[.int .i64 0, .int .i64 0, .int .i64 0, .int .i64 0, .int .i64 0, .int .i64 0] 46))
   have H7 := am (blk_new v1 (.cells #[.int .i64 0, .int .i64 0, .int .i64 0, .int .i64 0, .int .i64 0, .int .i64 0] 46))
   have g7 : w.heap.size ≤ v1.heap.size := HB.out.size
   replace HB := am (below_alloc HB.out (.cells #[.int .i64 0, .int .i64 0, .int .i64 0, .int .i64 0, .int .i64 0, .int .i64 0] 46))
   generalize v1.alloc (.cells #[.int .i64 0, .int .i64 0, .int .i64 0, .int .i64 0, .int .i64 0, .int .i64 0] 46) = v2 at H4 H5 H6 Hg H7 HB ⊢
   generalize v1.heap.size = b7 at H7 g7 n4_7 n5_7 n6_7 ng_7 ⊢
   clear hHeld
   refine hK.out _ _ ⟨H5.out, Hg.out⟩ (fun hHeld => ?_)
   clear hK K
   refine norm_ (a' := ?_) ?_ ?_
   rotate_left
   ·
    show Act.put _ (some 7) _ = _
    simp only [pw]
    rfl
   refine one_ (i := 11) (N := (some 21)) (flg 18 36863) rfl rfl (by kernel_rfl) (by decide) (fun K hK => ?_)
   refine goes_ Tryz.func101 (by kernel_rfl) rfl #[.agg #[.int .i64 p0, .int .i64 p1, .int .i64 p2, .int .i64 p3, .int .i64 p4, .int .i64 p5], .agg #[.int .i64 c.f0, .int .i64 c.f1, .int .i64 c.f2], .agg #[.int .i64 c.c0, .int .i64 c.c1, .int .i64 c.c2]] (by rfl) rfl rfl (by (try simp only [List.map_toArray, List.map_cons, List.map_nil]); first | done | rfl) ?_
   refine (HT.out v2 (HG.out.below HB.out)).mono ?_
   rintro e v3 ⟨rfl, hb⟩
   replace H4 := am (blk_below H4.out hb)
   replace H5 := am (blk_below H5.out hb)
   replace H6 := am (blk_below H6.out hb)
   replace Hg := am (blk_below Hg.out hb)
   replace H7 := am (blk_below H7.out hb)
   replace HB := am (below_step HB.out hb)
   clear hb hHeld
   refine ⟨_, rfl, ?_⟩
   refine hK.out _ _ ⟨H5.out, Hg.out⟩ (fun hHeld => ?_)
   clear hK K
   refine norm_ (a' := ?_) ?_ ?_
   rotate_left
   ·
    show Act.put _ (some 21) _ = _
    simp only [pw]
    rfl
   refine pure_ (i := 12) (N := (some 9)) (v := ?_) (a' := ?_) (flg 18 40959) rfl rfl (by kernel_rfl) (fun _ _ _ h => h) (Or.inl ⟨by rfl, ?_⟩) ?_ ?_
   rotate_left
   ·
    intro w'
    go_simp
    with_reducible rfl
   rotate_left
   ·
    simp only [pw]
    rfl
   refine pure_ (i := 13) (N := (some 22)) (v := ?_) (a' := ?_) (flg 18 49151) rfl rfl (by kernel_rfl) (fun _ _ _ h => h) (Or.inl ⟨by rfl, ?_⟩) ?_ ?_
   rotate_left
   ·
    intro w'
    go_simp
    with_reducible rfl
   rotate_left
   ·
    simp only [pw]
    rfl
   refine pure_ (i := 14) (N := (some 23)) (v := ?_) (a' := ?_) (flg 18 65535) rfl rfl (by kernel_rfl) (fun _ _ _ h => h) (Or.inl ⟨by rfl, ?_⟩) ?_ ?_
   rotate_left
   ·
    intro w'
    go_simp
    with_reducible rfl
   rotate_left
   ·
    simp only [pw]
    rfl
   have y70 := bcv H7.out 0 (.int .i64 0) rfl
   have f70 := bfz H7.out 0
   have y71 := bcv H7.out 1 (.int .i64 0) rfl
   have f71 := bfz H7.out 1
   have y72 := bcv H7.out 2 (.int .i64 0) rfl
   have f72 := bfz H7.out 2
   have y73 := bcv H7.out 3 (.int .i64 0) rfl
   have f73 := bfz H7.out 3
   have y74 := bcv H7.out 4 (.int .i64 0) rfl
   have f74 := bfz H7.out 4
   have y75 := bcv H7.out 5 (.int .i64 0) rfl
   have f75 := bfz H7.out 5
   refine one_ (i := 16) (N := none) (flg 18 131071) rfl rfl (by kernel_rfl) (by decide) (fun K hK => ?_)
   refine skip_ (w1 := (((((v3.setCell ⟨b7, 0, none⟩ (.int .i64 q0)).setCell ⟨b7, 1, none⟩ (.int .i64 q1)).setCell ⟨b7, 2, none⟩ (.int .i64 q2)).setCell ⟨b7, 3, none⟩ (.int .i64 q3)).setCell ⟨b7, 4, none⟩ (.int .i64 q4)).setCell ⟨b7, 5, none⟩ (.int .i64 q5)) (by rfl) rfl (by first | (go_simp; done) | (go_simp; rfl)) ?_
   obtain ⟨q, qb⟩ := six_set rfl H7.out g7 HB.out (.int .i64 q0) (.int .i64 q1) (.int .i64 q2) (.int .i64 q3) (.int .i64 q4) (.int .i64 q5)
   have qo0 := (blk_far (blk_far (blk_far (blk_far (blk_far (blk_far H4.out (p := ⟨b7, 0, none⟩) n4_7 (.int .i64 q0)) (p := ⟨b7, 1, none⟩) n4_7 (.int .i64 q1)) (p := ⟨b7, 2, none⟩) n4_7 (.int .i64 q2)) (p := ⟨b7, 3, none⟩) n4_7 (.int .i64 q3)) (p := ⟨b7, 4, none⟩) n4_7 (.int .i64 q4)) (p := ⟨b7, 5, none⟩) n4_7 (.int .i64 q5))
   have qo1 := (blk_far (blk_far (blk_far (blk_far (blk_far (blk_far H5.out (p := ⟨b7, 0, none⟩) n5_7 (.int .i64 q0)) (p := ⟨b7, 1, none⟩) n5_7 (.int .i64 q1)) (p := ⟨b7, 2, none⟩) n5_7 (.int .i64 q2)) (p := ⟨b7, 3, none⟩) n5_7 (.int .i64 q3)) (p := ⟨b7, 4, none⟩) n5_7 (.int .i64 q4)) (p := ⟨b7, 5, none⟩) n5_7 (.int .i64 q5))
   have qo2 := (blk_far (blk_far (blk_far (blk_far (blk_far (blk_far H6.out (p := ⟨b7, 0, none⟩) n6_7 (.int .i64 q0)) (p := ⟨b7, 1, none⟩) n6_7 (.int .i64 q1)) (p := ⟨b7, 2, none⟩) n6_7 (.int .i64 q2)) (p := ⟨b7, 3, none⟩) n6_7 (.int .i64 q3)) (p := ⟨b7, 4, none⟩) n6_7 (.int .i64 q4)) (p := ⟨b7, 5, none⟩) n6_7 (.int .i64 q5))
   have qo3 := (blk_far (blk_far (blk_far (blk_far (blk_far (blk_far Hg.out (p := ⟨b7, 0, none⟩) ng_7 (.int .i64 q0)) (p := ⟨b7, 1, none⟩) ng_7 (.int .i64 q1)) (p := ⟨b7, 2, none⟩) ng_7 (.int .i64 q2)) (p := ⟨b7, 3, none⟩) ng_7 (.int .i64 q3)) (p := ⟨b7, 4, none⟩) ng_7 (.int .i64 q4)) (p := ⟨b7, 5, none⟩) ng_7 (.int .i64 q5))
   clear hHeld y70 f70 y71 f71 y72 f72 y73 f73 y74 f74 y75 f75 H7 HB H4 H5 H6 Hg
   generalize (((((v3.setCell ⟨b7, 0, none⟩ (.int .i64 q0)).setCell ⟨b7, 1, none⟩ (.int .i64 q1)).setCell ⟨b7, 2, none⟩ (.int .i64 q2)).setCell ⟨b7, 3, none⟩ (.int .i64 q3)).setCell ⟨b7, 4, none⟩ (.int .i64 q4)).setCell ⟨b7, 5, none⟩ (.int .i64 q5) = v4 at q qb qo0 qo1 qo2 qo3 ⊢
   have H7 := am q
   have HB := am qb
   have H4 := am qo0
   have H5 := am qo1
   have H6 := am qo2
   have Hg := am qo3
   clear q qb qo0 qo1 qo2 qo3
   refine hK.out _ _ ⟨H5.out, Hg.out⟩ (fun hHeld => ?_)
   clear hK K
   refine pure_ (i := 17) (N := (some 8)) (v := ?_) (a' := ?_) (flg 18 262143) rfl rfl (by kernel_rfl) (fun _ _ _ h => h) (Or.inl ⟨by rfl, ?_⟩) ?_ ?_
   rotate_left
   ·
    intro w'
    go_simp
    with_reducible rfl
   rotate_left
   ·
    simp only [pw]
    rfl
   refine done_ (by kernel_rfl) ?_
   have g7w : w.heap.size ≤ b7 := g7
   exact join b7 v4 ⟨g7w, H4, H6, Hg, H7, HB⟩
 clear H4 H5 H6 Hg HB
 rintro b7 v4 ⟨g7, H4, H6, Hg, H7, HB⟩
 have n7_6 := blk_ne H7.out H6.out (by decide)
 have b50 := build50 r0 r1 r2 q0 q1 q2 q3 q4 q5
 as_aux_lemma =>
  go_upto_region 2 with fail
  refine start_ (n := 10) (S := fun w' => w'.heap[b4]? = some (.cells #[.int .i64 x0, .int .i64 x1, .int .i64 x2] 26 (0, 0)) ∧ w'.heap[bg]? = some (.cells (chanV s c f gr v mode since) 56 (0, 0)) ∧ w'.heap[b7]? = some (.cells #[.int .i64 q0, .int .i64 q1, .int .i64 q2, .int .i64 q3, .int .i64 q4, .int .i64 q5] 46 (0, 0))) (ds := []) (flg 10 0) (by kernel_rfl) rfl rfl ⟨H4.out, Hg.out, H7.out⟩ (fun hHeld => ?_)
  replace H4 := am (blk_drew H4.out)
  replace H6 := am (blk_drew H6.out)
  replace Hg := am (blk_drew Hg.out)
  replace H7 := am (blk_drew H7.out)
  replace HB := am (below_drew HB.out)
  generalize v4.drew = u1 at H4 H6 Hg H7 HB hHeld ⊢
  refine take_ (i := 0) (N := (some 24)) (v := ?_) (a' := ?_) (flg 10 1) rfl rfl (by kernel_rfl) (fun _ _ _ h => h) (Or.inl ⟨by rfl, ?_⟩) hHeld ?_ ?_
  rotate_left
  ·
   rintro w' ⟨s0, s1, s2⟩
   have x0 := bcv s0 0 (.int .i64 x0) rfl
   have x1 := bcv s0 1 (.int .i64 x1) rfl
   have x2 := bcv s0 2 (.int .i64 x2) rfl
   go_simp
   with_reducible rfl
  rotate_left
  ·
   simp only [pw]
   rfl
  refine pure_ (i := 1) (N := (some 25)) (v := ?_) (a' := ?_) (flg 10 3) rfl rfl (by kernel_rfl) (fun _ _ _ h => h) (Or.inl ⟨by rfl, ?_⟩) ?_ ?_
  rotate_left
  ·
   intro w'
   go_simp
   with_reducible rfl
  rotate_left
  ·
   simp only [pw]
   rfl
  refine pure_ (i := 2) (N := (some 26)) (v := ?_) (a' := ?_) (flg 10 7) rfl rfl (by kernel_rfl) (fun _ _ _ h => h) (Or.inl ⟨by rfl, ?_⟩) ?_ ?_
  rotate_left
  ·
   intro w'
   go_simp
   with_reducible rfl
  rotate_left
  ·
   simp only [pw]
   rfl
  refine pure_ (i := 3) (N := (some 27)) (v := ?_) (a' := ?_) (flg 10 15) rfl rfl (by kernel_rfl) (fun _ _ _ h => h) (Or.inl ⟨by rfl, ?_⟩) ?_ ?_
  rotate_left
  ·
   intro w'
   go_simp
   with_reducible rfl
  rotate_left
  ·
   simp only [pw]
   rfl
  refine pure_ (i := 4) (N := (some 28)) (v := ?_) (a' := ?_) (flg 10 31) rfl rfl (by kernel_rfl) (fun _ _ _ h => h) (Or.inl ⟨by rfl, ?_⟩) ?_ ?_
  rotate_left
  ·
   intro w'
   go_simp
   with_reducible rfl
  rotate_left
  ·
   simp only [pw]
   rfl
  refine take_ (i := 5) (N := (some 29)) (v := ?_) (a' := ?_) (flg 10 63) rfl rfl (by kernel_rfl) (fun _ _ _ h => h) (Or.inl ⟨by rfl, ?_⟩) hHeld ?_ ?_
  rotate_left
  ·
   rintro w' ⟨s0, s1, s2⟩
   have x0 := bcv s1 26 (.int .i64 c.b0) rfl
   have x1 := bcv s1 27 (.int .i64 c.b1) rfl
   have x2 := bcv s1 28 (.int .i64 c.b2) rfl
   go_simp
   with_reducible rfl
  rotate_left
  ·
   simp only [pw]
   rfl
  refine take_ (i := 7) (N := (some 31)) (v := ?_) (a' := ?_) (flg 10 191) rfl rfl (by kernel_rfl) (fun _ _ _ h => h) (Or.inl ⟨by rfl, ?_⟩) hHeld ?_ ?_
  rotate_left
  ·
   rintro w' ⟨s0, s1, s2⟩
   have z0 := bcv s2 0 (.int .i64 q0) rfl
   have z1 := bcv s2 1 (.int .i64 q1) rfl
   have z2 := bcv s2 2 (.int .i64 q2) rfl
   have z3 := bcv s2 3 (.int .i64 q3) rfl
   have z4 := bcv s2 4 (.int .i64 q4) rfl
   have z5 := bcv s2 5 (.int .i64 q5) rfl
   go_simp
   with_reducible rfl
  rotate_left
  ·
   simp only [pw]
   rfl
  refine one_ (i := 6) (N := (some 30)) (flg 10 255) rfl rfl (by kernel_rfl) (by decide) (fun K hK => ?_)
  refine goes_ Tryz.func102 (by kernel_rfl) rfl #[.agg #[.int .i64 x0, .int .i64 x1, .int .i64 x2], .agg #[.int .i64 c.b0, .int .i64 c.b1, .int .i64 c.b2]] (by rfl) rfl rfl (by (try simp only [List.map_toArray, List.map_cons, List.map_nil]); first | done | rfl) ?_
  refine (HK.out u1 (HG.out.below HB.out)).mono ?_
  rintro e u2 ⟨rfl, hb⟩
  replace H4 := am (blk_below H4.out hb)
  replace H6 := am (blk_below H6.out hb)
  replace Hg := am (blk_below Hg.out hb)
  replace H7 := am (blk_below H7.out hb)
  replace HB := am (below_step HB.out hb)
  clear hb hHeld
  refine ⟨_, rfl, ?_⟩
  refine hK.out _ _ ⟨H4.out, Hg.out, H7.out⟩ (fun hHeld => ?_)
  clear hK K
  refine norm_ (a' := ?_) ?_ ?_
  rotate_left
  ·
   show Act.put _ (some 30) _ = _
   simp only [pw]
   rfl
  refine pure_ (i := 8) (N := (some 32)) (v := (.agg #[.int .i64 r0, .int .i64 r1, .int .i64 r2, .int .i64 q0, .int .i64 q1, .int .i64 q2, .int .i64 q3, .int .i64 q4, .int .i64 q5])) (a' := ?_) (flg 10 511) rfl rfl (by kernel_rfl) (fun _ _ _ h => h) (Or.inl ⟨by rfl, ?_⟩) ?_ ?_
  ·
   intro w'
   exact yield50 (.tmp 30) (.tmp 31) rfl r0 r1 r2 q0 q1 q2 q3 q4 q5 rfl rfl w'
  rotate_left
  ·
   simp only [pw]
   rfl
  refine one_ (i := 9) (N := none) (flg 10 1023) rfl rfl (by kernel_rfl) (by decide) (fun K hK => ?_)
  refine skip_ (w1 := ((((((((u2.setCell ⟨b6, 0, none⟩ (.int .i64 r0)).setCell ⟨b6, 1, none⟩ (.int .i64 r1)).setCell ⟨b6, 2, none⟩ (.int .i64 r2)).setCell ⟨b6, 3, none⟩ (.int .i64 q0)).setCell ⟨b6, 4, none⟩ (.int .i64 q1)).setCell ⟨b6, 5, none⟩ (.int .i64 q2)).setCell ⟨b6, 6, none⟩ (.int .i64 q3)).setCell ⟨b6, 7, none⟩ (.int .i64 q4)).setCell ⟨b6, 8, none⟩ (.int .i64 q5)) (by rfl) rfl (store9 (.tmp 6) (.tmp 32) rfl b6 r0 r1 r2 q0 q1 q2 q3 q4 q5 rfl rfl H6.out) ?_
  obtain ⟨q, qb⟩ := nine_set H6.out g6 HB.out (.int .i64 r0) (.int .i64 r1) (.int .i64 r2) (.int .i64 q0) (.int .i64 q1) (.int .i64 q2) (.int .i64 q3) (.int .i64 q4) (.int .i64 q5)
  have qag := (blk_far (blk_far (blk_far (blk_far (blk_far (blk_far (blk_far (blk_far (blk_far Hg.out (p := ⟨b6, 0, none⟩) ng_6 (.int .i64 r0)) (p := ⟨b6, 1, none⟩) ng_6 (.int .i64 r1)) (p := ⟨b6, 2, none⟩) ng_6 (.int .i64 r2)) (p := ⟨b6, 3, none⟩) ng_6 (.int .i64 q0)) (p := ⟨b6, 4, none⟩) ng_6 (.int .i64 q1)) (p := ⟨b6, 5, none⟩) ng_6 (.int .i64 q2)) (p := ⟨b6, 6, none⟩) ng_6 (.int .i64 q3)) (p := ⟨b6, 7, none⟩) ng_6 (.int .i64 q4)) (p := ⟨b6, 8, none⟩) ng_6 (.int .i64 q5))
  have qa4 := (blk_far (blk_far (blk_far (blk_far (blk_far (blk_far (blk_far (blk_far (blk_far H4.out (p := ⟨b6, 0, none⟩) n4_6 (.int .i64 r0)) (p := ⟨b6, 1, none⟩) n4_6 (.int .i64 r1)) (p := ⟨b6, 2, none⟩) n4_6 (.int .i64 r2)) (p := ⟨b6, 3, none⟩) n4_6 (.int .i64 q0)) (p := ⟨b6, 4, none⟩) n4_6 (.int .i64 q1)) (p := ⟨b6, 5, none⟩) n4_6 (.int .i64 q2)) (p := ⟨b6, 6, none⟩) n4_6 (.int .i64 q3)) (p := ⟨b6, 7, none⟩) n4_6 (.int .i64 q4)) (p := ⟨b6, 8, none⟩) n4_6 (.int .i64 q5))
  have qa7 := (blk_far (blk_far (blk_far (blk_far (blk_far (blk_far (blk_far (blk_far (blk_far H7.out (p := ⟨b6, 0, none⟩) n7_6 (.int .i64 r0)) (p := ⟨b6, 1, none⟩) n7_6 (.int .i64 r1)) (p := ⟨b6, 2, none⟩) n7_6 (.int .i64 r2)) (p := ⟨b6, 3, none⟩) n7_6 (.int .i64 q0)) (p := ⟨b6, 4, none⟩) n7_6 (.int .i64 q1)) (p := ⟨b6, 5, none⟩) n7_6 (.int .i64 q2)) (p := ⟨b6, 6, none⟩) n7_6 (.int .i64 q3)) (p := ⟨b6, 7, none⟩) n7_6 (.int .i64 q4)) (p := ⟨b6, 8, none⟩) n7_6 (.int .i64 q5))
  clear hHeld H6 HB Hg H4 H7
  generalize ((((((((u2.setCell ⟨b6, 0, none⟩ (.int .i64 r0)).setCell ⟨b6, 1, none⟩ (.int .i64 r1)).setCell ⟨b6, 2, none⟩ (.int .i64 r2)).setCell ⟨b6, 3, none⟩ (.int .i64 q0)).setCell ⟨b6, 4, none⟩ (.int .i64 q1)).setCell ⟨b6, 5, none⟩ (.int .i64 q2)).setCell ⟨b6, 6, none⟩ (.int .i64 q3)).setCell ⟨b6, 7, none⟩ (.int .i64 q4)).setCell ⟨b6, 8, none⟩ (.int .i64 q5) = u3 at q qb qag qa4 qa7 ⊢
  have H6 := am q
  have HB := am qb
  have Hg := am qag
  have H4 := am qa4
  have H7 := am qa7
  clear q qb qag qa4 qa7
  refine hK.out _ _ ⟨H4.out, Hg.out, H7.out⟩ (fun hHeld => ?_)
  clear hK K
  refine done_ (by kernel_rfl) ?_
  go_wp2_with fail
  exact bodyPost_ret (results_cell_row rfl _ _ b6 50 _ (0, 0) _ rfl H6.out Tryz.underlying50 rfl (by kernel_rfl)) rfl ⟨rfl, HB.out⟩
end Go.Proofs.YtpdahkgandaabaaGreatDoor.Ch
namespace Go.Proofs.YtpdahkgandaabaaGreatDoor.Ch
open Go.RowKit Go.Shelf Go.Proofs.YtpdahkgandaabaaGreatDoorW.PrintWords Go.Proofs.YtpdahkgandaabaaGreatDoorW.PrintLast Go.Proofs.YtpdahkgandaabaaGreatDoorW.PrintMore Go.Proofs.YtpdahkgandaabaaGreatDoor.PTopNames Go.Proofs.YtpdahkgandaabaaGreatDoor.Al
set_option linter.unusedVariables false
set_option linter.unusedSimpArgs false
attribute [local go_sem] Oper.semAt_some
def Keeps (n : Nat) (S : Nat → Prop) (W W' : World) : Prop := Below n W W' ∧ ∀ b o, S b → W.heap[b]? = some o → o.isCells = true → W'.heap[b]? = some o
abbrev Wd := { q : Int × Int // U q.2 }
def encw (q : Wd) : Array Value := #[.agg #[.int .i64 q.1.1, .int .u64 q.1.2]]
def symA (m0 m1 m2 m3 m4 m5 : Int) : Array Value := #[.int .i64 m0, .int .i64 m1, .int .i64 m2, .int .i64 m3, .int .i64 m4, .int .i64 m5]
def rowv (i : Int) (a : Nat) : Int := [32768, 256, -1, 0, 32768, -256, 0, 0, 32768].getD (3 * i.toNat + a) 0
structure Held (w0 : World) (bi bj bt : Nat) (i j : Int) (C : Array Value) (W : World) : Prop where
 hi : W.heap[bi]? = some (.cells #[.int .i64 i] 3 (0, 0))
 hj : W.heap[bj]? = some (.cells #[.int .i64 j] 3 (0, 0))
 ht : W.heap[bt]? = some (.cells C 46 (0, 0))
 hb : Below w0.heap.size w0 W
theorem Held.step {w0 : World} {bi bj bt : Nat} {i j : Int} {C : Array Value} {W W' : World} (h : Held w0 bi bj bt i j C W) (hb : Below W.heap.size W W') : Held w0 bi bj bt i j C W' :=
 ⟨blk_below h.hi hb, blk_below h.hj hb, blk_below h.ht hb, below_step h.hb hb⟩
theorem Held.keeps {w0 : World} {bi bj bt : Nat} {i j : Int} {C : Array Value} {W W' : World} {S : Nat → Prop} (h : Held w0 bi bj bt i j C W) (hSi : S bi) (hSj : S bj) (hSt : S bt) (hk : Keeps w0.heap.size S W W') : Held w0 bi bj bt i j C W' :=
 ⟨hk.2 _ _ hSi h.hi rfl, hk.2 _ _ hSj h.hj rfl, hk.2 _ _ hSt h.ht rfl, h.hb.trans hk.1⟩
def IsTerms (m0 m1 m2 m3 m4 m5 i j : Int) (T : Nat → Wd) : Prop :=
 ∀ a b : Nat, a < 3 → b < 3 → ∃ z, Tells 118 #[sym m0 m1 m2 m3 m4 m5, .int .i64 (a : Int), .int .i64 (b : Int)] (Ch.two z 0) ∧ Tells 98 #[.int .i64 z, .int .i64 (wrap64 (rowv i a * rowv j b))] (wide (T (3 * a + b)).1.1 (T (3 * a + b)).1.2)
theorem upto_succ (T : Nat → Wd) (q : Nat) : (List.range (q + 1)).map T = (List.range q).map T ++ [T q] := by
 rw [List.range_succ, List.map_append]
 rfl
theorem index3 (x0 x1 x2 : Int) : (∀ w, (Instr.index 25 (.agg #[.int .i64 x0, .int .i64 x1, .int .i64 x2]) (.int .i64 0)).run Tryz.prog w = .ok (.int .i64 x0) w) ∧ (∀ w, (Instr.index 25 (.agg #[.int .i64 x0, .int .i64 x1, .int .i64 x2]) (.int .i64 1)).run Tryz.prog w = .ok (.int .i64 x1) w) ∧
  (∀ w, (Instr.index 25 (.agg #[.int .i64 x0, .int .i64 x1, .int .i64 x2]) (.int .i64 2)).run Tryz.prog w = .ok (.int .i64 x2) w) := ⟨fun _ => by kernel_rfl, fun _ => by kernel_rfl, fun _ => by kernel_rfl⟩
theorem rows3 {W : World} (hG : G W) (i : Int) (hi : i = 0 ∨ i = 1 ∨ i = 2) : W.cell? ⟨2, i.toNat * 3, none⟩ = some (.int .i64 (rowv i 0)) ∧ W.cell? ⟨2, i.toNat * 3 + 1, none⟩ = some (.int .i64 (rowv i 1)) ∧ W.cell? ⟨2, i.toNat * 3 + 2, none⟩ = some (.int .i64 (rowv i 2)) := by
 rcases hi with rfl | rfl | rfl
 ·
  exact ⟨hG.rows 0, hG.rows 1, hG.rows 2⟩
 ·
  exact ⟨hG.rows 3, hG.rows 4, hG.rows 5⟩
 ·
  exact ⟨hG.rows 6, hG.rows 7, hG.rows 8⟩
set_option maxRecDepth 100000 in
set_option maxHeartbeats 4000000 in
theorem terms1_in (n : Nat) (hn : 1 ≤ n) (i j : Int) (hi : i = 0 ∨ i = 1 ∨ i = 2) (hj : j = 0 ∨ j = 1 ∨ j = 2) (m0 m1 m2 m3 m4 m5 : Int) (T : Nat → Wd) (hT : IsTerms m0 m1 m2 m3 m4 m5 i j T)
  (l bi bj bt : Nat) (S : Nat → Prop) (w0 W : World) (hG : G w0) (hSi : S bi) (hSj : S bj) (hSt : S bt) (hH : Held w0 bi bj bt i j (symA m0 m1 m2 m3 m4 m5) W)
  (J : List Wd → World → Prop) (hJ : AbidesFrom W.heap.size J)
  (hY : ∀ pre x W1, J pre W1 → pre.length < 9 → YieldAt Fence.wide (n - 1) Tryz.prog l (encw x) W1 fun e W' => e = .returned (.bool true) ∧ J (pre ++ [x]) W' ∧ Keeps w0.heap.size S W1 W')
  (h0 : J [] W) :
  CallsIn Fence.wide n Tryz.prog 154 #[.func (.yield l) #[] #[], .pointer (some ⟨bi, 0, none⟩), .pointer (some ⟨bj, 0, none⟩), .pointer (some ⟨bt, 0, none⟩)] W fun e W' => (∃ v, e = .returned v) ∧ ∃ xs, xs = (List.range 9).map T ∧ J xs W' := by
 have HG := am hG
 have HY := am hY
 have HJ := am hJ
 have HT := am hT
 have HH := am hH
 have HJ0 : Aside0 (J ((List.range 0).map T) W) := ⟨h0⟩
 clear hG hY hJ hT hH h0
 have xi := bcv HH.out.hi 0 (.int .i64 i) rfl
 refine callsIn_of_wp Tryz.func154 rfl trivial ?_ rfl
 simp only [Tryz.ntmps154, List.size_toArray, List.length_cons, List.length_nil, Nat.reduceAdd, Nat.reduceSub, Array.replicate_succ, Array.replicate_zero, List.push_toArray, List.append_toArray, List.nil_append, List.cons_append]
 have p0 : 0 ≤ i := by omega
 have p1 : i < 3 := by omega
 obtain ⟨r0, r1, r2⟩ := rows3 (HG.out.below HH.out.hb) i hi
 clear hi
 unfold symA at HH
 obtain ⟨i0, i1, i2⟩ := index3 (rowv i 0) (rowv i 1) (rowv i 2)
 obtain ⟨j0, j1, j2⟩ := index3 (rowv j 0) (rowv j 1) (rowv j 2)
 gi_wp2
 gi_loopw [14] (fun i' wr => ∃ (a : Nat) (y : Int), y = a ∧ a ≤ 3 ∧ i' = .int .i64 y ∧ Aside0 (J ((List.range (3 * a)).map T) wr) ∧ Aside0 (Held w0 bi bj bt i j #[.int .i64 m0, .int .i64 m1, .int .i64 m2, .int .i64 m3, .int .i64 m4, .int .i64 m5] wr)) (fun i _ => 3 - (intOf i).toNat)
 case atStart => exact ⟨0, 0, rfl, by omega, rfl, HJ0, HH⟩
 case round =>
  clear HJ0 HH r0 r1 r2 xi
  obtain ⟨a, y, hy0, ha, rfl, HJ1, HH1⟩ := hrel
  have xj := bcv HH1.out.hj 0 (.int .i64 j) rfl
  have q0 : 0 ≤ j := by omega
  have q1 : j < 3 := by omega
  obtain ⟨r0, r1, r2⟩ := rows3 (HG.out.below HH1.out.hb) j hj
  obtain rfl | rfl | rfl | rfl : a = 0 ∨ a = 1 ∨ a = 2 ∨ a = 3 := by omega
  ·
   obtain rfl : y = 0 := hy0
   gi_wp2
   gi_loopw [21] (fun i' wr => ∃ (b : Nat) (z : Int), z = b ∧ b ≤ 3 ∧ i' = .int .i64 z ∧ Aside0 (J ((List.range (0 + b)).map T) wr) ∧ Aside0 (Held w0 bi bj bt i j #[.int .i64 m0, .int .i64 m1, .int .i64 m2, .int .i64 m3, .int .i64 m4, .int .i64 m5] wr)) (fun i _ => 3 - (intOf i).toNat)
   case atStart => exact ⟨0, 0, rfl, by omega, rfl, HJ1, HH1⟩
   case round =>
    clear HJ1 HH1 r0 r1 r2 xj
    obtain ⟨b, z, hz, hb, rfl, HJ2, HH2⟩ := hrel
    have xt0 := bcv HH2.out.ht 0 (.int .i64 m0) rfl
    have xt1 := bcv HH2.out.ht 1 (.int .i64 m1) rfl
    have xt2 := bcv HH2.out.ht 2 (.int .i64 m2) rfl
    have xt3 := bcv HH2.out.ht 3 (.int .i64 m3) rfl
    have xt4 := bcv HH2.out.ht 4 (.int .i64 m4) rfl
    have xt5 := bcv HH2.out.ht 5 (.int .i64 m5) rfl
    obtain rfl | rfl | rfl | rfl : b = 0 ∨ b = 1 ∨ b = 2 ∨ b = 3 := by omega
    ·
     obtain rfl : z = 0 := hz
     obtain ⟨z, hz1, hz2⟩ := HT.out 0 0 (by decide) (by decide)
     have HA1 := am hz1
     have HA2 := am hz2
     clear hz1 hz2
     unfold sym Ch.two at HA1
     unfold wide at HA2
     gi_wp2_with fail
     refine ⟨trivial, (callsIn_wide.2 (HA1.out wr (HG.out.below HH2.out.hb))).mono ?_⟩
     rintro e w1 ⟨rfl, hb1⟩
     replace HJ2 := am (HJ.out _ wr w1 none HJ2.out (grown_of_below hb1 none) (fun r e => by cases e))
     replace HH2 := am (HH2.out.step hb1)
     clear hb1
     gi_wp2_with fail
     refine ⟨trivial, (callsIn_wide.2 (HA2.out w1 (HG.out.below HH2.out.hb))).mono ?_⟩
     rintro e w2 ⟨rfl, hb1⟩
     replace HJ2 := am (HJ.out _ w1 w2 none HJ2.out (grown_of_below hb1 none) (fun r e => by cases e))
     replace HH2 := am (HH2.out.step hb1)
     clear hb1
     obtain ⟨fn, tmps, assign, body, hy, hround⟩ := HY.out _ (T 0) _ HJ2.out (by simp)
     dsimp only [encw] at hy
     have HRO := am hround
     clear hround
     gi_wp2
     refine HRO.out.mono ?_
     rintro e w3 ⟨rfl, hJ3, hk3⟩
     have HJ3 := am (show J ((List.range 1).map T) w3 by rw [show (1 : Nat) = 0 + 1 from rfl, upto_succ]; exact hJ3)
     replace HH2 := am (HH2.out.keeps hSi hSj hSt hk3)
     clear hJ3 hk3 HRO HJ2
     gi_wp2
     go_roundw
     case rel => exact ⟨1, _, rfl, by omega, rfl, HJ3, HH2⟩
     case measure => simp [intOf]
    ·
     obtain rfl : z = 1 := hz
     obtain ⟨z, hz1, hz2⟩ := HT.out 0 1 (by decide) (by decide)
     have HA1 := am hz1
     have HA2 := am hz2
     clear hz1 hz2
     unfold sym Ch.two at HA1
     unfold wide at HA2
     gi_wp2_with fail
     refine ⟨trivial, (callsIn_wide.2 (HA1.out wr (HG.out.below HH2.out.hb))).mono ?_⟩
     rintro e w1 ⟨rfl, hb1⟩
     replace HJ2 := am (HJ.out _ wr w1 none HJ2.out (grown_of_below hb1 none) (fun r e => by cases e))
     replace HH2 := am (HH2.out.step hb1)
     clear hb1
     gi_wp2_with fail
     refine ⟨trivial, (callsIn_wide.2 (HA2.out w1 (HG.out.below HH2.out.hb))).mono ?_⟩
     rintro e w2 ⟨rfl, hb1⟩
     replace HJ2 := am (HJ.out _ w1 w2 none HJ2.out (grown_of_below hb1 none) (fun r e => by cases e))
     replace HH2 := am (HH2.out.step hb1)
     clear hb1
     obtain ⟨fn, tmps, assign, body, hy, hround⟩ := HY.out _ (T 1) _ HJ2.out (by simp)
     dsimp only [encw] at hy
     have HRO := am hround
     clear hround
     gi_wp2
     refine HRO.out.mono ?_
     rintro e w3 ⟨rfl, hJ3, hk3⟩
     have HJ3 := am (show J ((List.range 2).map T) w3 by rw [show (2 : Nat) = 1 + 1 from rfl, upto_succ]; exact hJ3)
     replace HH2 := am (HH2.out.keeps hSi hSj hSt hk3)
     clear hJ3 hk3 HRO HJ2
     gi_wp2
     go_roundw
     case rel => exact ⟨2, _, rfl, by omega, rfl, HJ3, HH2⟩
     case measure => simp [intOf]
    ·
     obtain rfl : z = 2 := hz
     obtain ⟨z, hz1, hz2⟩ := HT.out 0 2 (by decide) (by decide)
     have HA1 := am hz1
     have HA2 := am hz2
     clear hz1 hz2
     unfold sym Ch.two at HA1
     unfold wide at HA2
     gi_wp2_with fail
     refine ⟨trivial, (callsIn_wide.2 (HA1.out wr (HG.out.below HH2.out.hb))).mono ?_⟩
     rintro e w1 ⟨rfl, hb1⟩
     replace HJ2 := am (HJ.out _ wr w1 none HJ2.out (grown_of_below hb1 none) (fun r e => by cases e))
     replace HH2 := am (HH2.out.step hb1)
     clear hb1
     gi_wp2_with fail
     refine ⟨trivial, (callsIn_wide.2 (HA2.out w1 (HG.out.below HH2.out.hb))).mono ?_⟩
     rintro e w2 ⟨rfl, hb1⟩
     replace HJ2 := am (HJ.out _ w1 w2 none HJ2.out (grown_of_below hb1 none) (fun r e => by cases e))
     replace HH2 := am (HH2.out.step hb1)
     clear hb1
     obtain ⟨fn, tmps, assign, body, hy, hround⟩ := HY.out _ (T 2) _ HJ2.out (by simp)
     dsimp only [encw] at hy
     have HRO := am hround
     clear hround
     gi_wp2
     refine HRO.out.mono ?_
     rintro e w3 ⟨rfl, hJ3, hk3⟩
     have HJ3 := am (show J ((List.range 3).map T) w3 by rw [show (3 : Nat) = 2 + 1 from rfl, upto_succ]; exact hJ3)
     replace HH2 := am (HH2.out.keeps hSi hSj hSt hk3)
     clear hJ3 hk3 HRO HJ2
     gi_wp2
     go_roundw
     case rel => exact ⟨3, _, rfl, by omega, rfl, HJ3, HH2⟩
     case measure => simp [intOf]
    ·
     obtain rfl : z = 3 := hz
     gi_wp2
     go_roundw
     case rel => exact ⟨1, _, rfl, by omega, rfl, HJ2, HH2⟩
     case measure => simp [intOf]
  ·
   obtain rfl : y = 1 := hy0
   gi_wp2
   gi_loopw [21] (fun i' wr => ∃ (b : Nat) (z : Int), z = b ∧ b ≤ 3 ∧ i' = .int .i64 z ∧ Aside0 (J ((List.range (3 + b)).map T) wr) ∧ Aside0 (Held w0 bi bj bt i j #[.int .i64 m0, .int .i64 m1, .int .i64 m2, .int .i64 m3, .int .i64 m4, .int .i64 m5] wr)) (fun i _ => 3 - (intOf i).toNat)
   case atStart => exact ⟨0, 0, rfl, by omega, rfl, HJ1, HH1⟩
   case round =>
    clear HJ1 HH1 r0 r1 r2 xj
    obtain ⟨b, z, hz, hb, rfl, HJ2, HH2⟩ := hrel
    have xt0 := bcv HH2.out.ht 0 (.int .i64 m0) rfl
    have xt1 := bcv HH2.out.ht 1 (.int .i64 m1) rfl
    have xt2 := bcv HH2.out.ht 2 (.int .i64 m2) rfl
    have xt3 := bcv HH2.out.ht 3 (.int .i64 m3) rfl
    have xt4 := bcv HH2.out.ht 4 (.int .i64 m4) rfl
    have xt5 := bcv HH2.out.ht 5 (.int .i64 m5) rfl
    obtain rfl | rfl | rfl | rfl : b = 0 ∨ b = 1 ∨ b = 2 ∨ b = 3 := by omega
    ·
     obtain rfl : z = 0 := hz
     obtain ⟨z, hz1, hz2⟩ := HT.out 1 0 (by decide) (by decide)
     have HA1 := am hz1
     have HA2 := am hz2
     clear hz1 hz2
     unfold sym Ch.two at HA1
     unfold wide at HA2
     gi_wp2_with fail
     refine ⟨trivial, (callsIn_wide.2 (HA1.out wr (HG.out.below HH2.out.hb))).mono ?_⟩
     rintro e w1 ⟨rfl, hb1⟩
     replace HJ2 := am (HJ.out _ wr w1 none HJ2.out (grown_of_below hb1 none) (fun r e => by cases e))
     replace HH2 := am (HH2.out.step hb1)
     clear hb1
     gi_wp2_with fail
     refine ⟨trivial, (callsIn_wide.2 (HA2.out w1 (HG.out.below HH2.out.hb))).mono ?_⟩
     rintro e w2 ⟨rfl, hb1⟩
     replace HJ2 := am (HJ.out _ w1 w2 none HJ2.out (grown_of_below hb1 none) (fun r e => by cases e))
     replace HH2 := am (HH2.out.step hb1)
     clear hb1
     obtain ⟨fn, tmps, assign, body, hy, hround⟩ := HY.out _ (T 3) _ HJ2.out (by simp)
     dsimp only [encw] at hy
     have HRO := am hround
     clear hround
     gi_wp2
     refine HRO.out.mono ?_
     rintro e w3 ⟨rfl, hJ3, hk3⟩
     have HJ3 := am (show J ((List.range 4).map T) w3 by rw [show (4 : Nat) = 3 + 1 from rfl, upto_succ]; exact hJ3)
     replace HH2 := am (HH2.out.keeps hSi hSj hSt hk3)
     clear hJ3 hk3 HRO HJ2
     gi_wp2
     go_roundw
     case rel => exact ⟨1, _, rfl, by omega, rfl, HJ3, HH2⟩
     case measure => simp [intOf]
    ·
     obtain rfl : z = 1 := hz
     obtain ⟨z, hz1, hz2⟩ := HT.out 1 1 (by decide) (by decide)
     have HA1 := am hz1
     have HA2 := am hz2
     clear hz1 hz2
     unfold sym Ch.two at HA1
     unfold wide at HA2
     gi_wp2_with fail
     refine ⟨trivial, (callsIn_wide.2 (HA1.out wr (HG.out.below HH2.out.hb))).mono ?_⟩
     rintro e w1 ⟨rfl, hb1⟩
     replace HJ2 := am (HJ.out _ wr w1 none HJ2.out (grown_of_below hb1 none) (fun r e => by cases e))
     replace HH2 := am (HH2.out.step hb1)
     clear hb1
     gi_wp2_with fail
     refine ⟨trivial, (callsIn_wide.2 (HA2.out w1 (HG.out.below HH2.out.hb))).mono ?_⟩
     rintro e w2 ⟨rfl, hb1⟩
     replace HJ2 := am (HJ.out _ w1 w2 none HJ2.out (grown_of_below hb1 none) (fun r e => by cases e))
     replace HH2 := am (HH2.out.step hb1)
     clear hb1
     obtain ⟨fn, tmps, assign, body, hy, hround⟩ := HY.out _ (T 4) _ HJ2.out (by simp)
     dsimp only [encw] at hy
     have HRO := am hround
     clear hround
     gi_wp2
     refine HRO.out.mono ?_
     rintro e w3 ⟨rfl, hJ3, hk3⟩
     have HJ3 := am (show J ((List.range 5).map T) w3 by rw [show (5 : Nat) = 4 + 1 from rfl, upto_succ]; exact hJ3)
     replace HH2 := am (HH2.out.keeps hSi hSj hSt hk3)
     clear hJ3 hk3 HRO HJ2
     gi_wp2
     go_roundw
     case rel => exact ⟨2, _, rfl, by omega, rfl, HJ3, HH2⟩
     case measure => simp [intOf]
    ·
     obtain rfl : z = 2 := hz
     obtain ⟨z, hz1, hz2⟩ := HT.out 1 2 (by decide) (by decide)
     have HA1 := am hz1
     have HA2 := am hz2
     clear hz1 hz2
     unfold sym Ch.two at HA1
     unfold wide at HA2
     gi_wp2_with fail
     refine ⟨trivial, (callsIn_wide.2 (HA1.out wr (HG.out.below HH2.out.hb))).mono ?_⟩
     rintro e w1 ⟨rfl, hb1⟩
     replace HJ2 := am (HJ.out _ wr w1 none HJ2.out (grown_of_below hb1 none) (fun r e => by cases e))
     replace HH2 := am (HH2.out.step hb1)
     clear hb1
     gi_wp2_with fail
     refine ⟨trivial, (callsIn_wide.2 (HA2.out w1 (HG.out.below HH2.out.hb))).mono ?_⟩
     rintro e w2 ⟨rfl, hb1⟩
     replace HJ2 := am (HJ.out _ w1 w2 none HJ2.out (grown_of_below hb1 none) (fun r e => by cases e))
     replace HH2 := am (HH2.out.step hb1)
     clear hb1
     obtain ⟨fn, tmps, assign, body, hy, hround⟩ := HY.out _ (T 5) _ HJ2.out (by simp)
     dsimp only [encw] at hy
     have HRO := am hround
     clear hround
     gi_wp2
     refine HRO.out.mono ?_
     rintro e w3 ⟨rfl, hJ3, hk3⟩
     have HJ3 := am (show J ((List.range 6).map T) w3 by rw [show (6 : Nat) = 5 + 1 from rfl, upto_succ]; exact hJ3)
     replace HH2 := am (HH2.out.keeps hSi hSj hSt hk3)
     clear hJ3 hk3 HRO HJ2
     gi_wp2
     go_roundw
     case rel => exact ⟨3, _, rfl, by omega, rfl, HJ3, HH2⟩
     case measure => simp [intOf]
    ·
     obtain rfl : z = 3 := hz
     gi_wp2
     go_roundw
     case rel => exact ⟨2, _, rfl, by omega, rfl, HJ2, HH2⟩
     case measure => simp [intOf]
  ·
   obtain rfl : y = 2 := hy0
   gi_wp2
   gi_loopw [21] (fun i' wr => ∃ (b : Nat) (z : Int), z = b ∧ b ≤ 3 ∧ i' = .int .i64 z ∧ Aside0 (J ((List.range (6 + b)).map T) wr) ∧ Aside0 (Held w0 bi bj bt i j #[.int .i64 m0, .int .i64 m1, .int .i64 m2, .int .i64 m3, .int .i64 m4, .int .i64 m5] wr)) (fun i _ => 3 - (intOf i).toNat)
   case atStart => exact ⟨0, 0, rfl, by omega, rfl, HJ1, HH1⟩
   case round =>
    clear HJ1 HH1 r0 r1 r2 xj
    obtain ⟨b, z, hz, hb, rfl, HJ2, HH2⟩ := hrel
    have xt0 := bcv HH2.out.ht 0 (.int .i64 m0) rfl
    have xt1 := bcv HH2.out.ht 1 (.int .i64 m1) rfl
    have xt2 := bcv HH2.out.ht 2 (.int .i64 m2) rfl
    have xt3 := bcv HH2.out.ht 3 (.int .i64 m3) rfl
    have xt4 := bcv HH2.out.ht 4 (.int .i64 m4) rfl
    have xt5 := bcv HH2.out.ht 5 (.int .i64 m5) rfl
    obtain rfl | rfl | rfl | rfl : b = 0 ∨ b = 1 ∨ b = 2 ∨ b = 3 := by omega
    ·
     obtain rfl : z = 0 := hz
     obtain ⟨z, hz1, hz2⟩ := HT.out 2 0 (by decide) (by decide)
     have HA1 := am hz1
     have HA2 := am hz2
     clear hz1 hz2
     unfold sym Ch.two at HA1
     unfold wide at HA2
     gi_wp2_with fail
     refine ⟨trivial, (callsIn_wide.2 (HA1.out wr (HG.out.below HH2.out.hb))).mono ?_⟩
     rintro e w1 ⟨rfl, hb1⟩
     replace HJ2 := am (HJ.out _ wr w1 none HJ2.out (grown_of_below hb1 none) (fun r e => by cases e))
     replace HH2 := am (HH2.out.step hb1)
     clear hb1
     gi_wp2_with fail
     refine ⟨trivial, (callsIn_wide.2 (HA2.out w1 (HG.out.below HH2.out.hb))).mono ?_⟩
     rintro e w2 ⟨rfl, hb1⟩
     replace HJ2 := am (HJ.out _ w1 w2 none HJ2.out (grown_of_below hb1 none) (fun r e => by cases e))
     replace HH2 := am (HH2.out.step hb1)
     clear hb1
     obtain ⟨fn, tmps, assign, body, hy, hround⟩ := HY.out _ (T 6) _ HJ2.out (by simp)
     dsimp only [encw] at hy
     have HRO := am hround
     clear hround
     gi_wp2
     refine HRO.out.mono ?_
     rintro e w3 ⟨rfl, hJ3, hk3⟩
     have HJ3 := am (show J ((List.range 7).map T) w3 by rw [show (7 : Nat) = 6 + 1 from rfl, upto_succ]; exact hJ3)
     replace HH2 := am (HH2.out.keeps hSi hSj hSt hk3)
     clear hJ3 hk3 HRO HJ2
     gi_wp2
     go_roundw
     case rel => exact ⟨1, _, rfl, by omega, rfl, HJ3, HH2⟩
     case measure => simp [intOf]
    ·
     obtain rfl : z = 1 := hz
     obtain ⟨z, hz1, hz2⟩ := HT.out 2 1 (by decide) (by decide)
     have HA1 := am hz1
     have HA2 := am hz2
     clear hz1 hz2
     unfold sym Ch.two at HA1
     unfold wide at HA2
     gi_wp2_with fail
     refine ⟨trivial, (callsIn_wide.2 (HA1.out wr (HG.out.below HH2.out.hb))).mono ?_⟩
     rintro e w1 ⟨rfl, hb1⟩
     replace HJ2 := am (HJ.out _ wr w1 none HJ2.out (grown_of_below hb1 none) (fun r e => by cases e))
     replace HH2 := am (HH2.out.step hb1)
     clear hb1
     gi_wp2_with fail
     refine ⟨trivial, (callsIn_wide.2 (HA2.out w1 (HG.out.below HH2.out.hb))).mono ?_⟩
     rintro e w2 ⟨rfl, hb1⟩
     replace HJ2 := am (HJ.out _ w1 w2 none HJ2.out (grown_of_below hb1 none) (fun r e => by cases e))
     replace HH2 := am (HH2.out.step hb1)
     clear hb1
     obtain ⟨fn, tmps, assign, body, hy, hround⟩ := HY.out _ (T 7) _ HJ2.out (by simp)
     dsimp only [encw] at hy
     have HRO := am hround
     clear hround
     gi_wp2
     refine HRO.out.mono ?_
     rintro e w3 ⟨rfl, hJ3, hk3⟩
     have HJ3 := am (show J ((List.range 8).map T) w3 by rw [show (8 : Nat) = 7 + 1 from rfl, upto_succ]; exact hJ3)
     replace HH2 := am (HH2.out.keeps hSi hSj hSt hk3)
     clear hJ3 hk3 HRO HJ2
     gi_wp2
     go_roundw
     case rel => exact ⟨2, _, rfl, by omega, rfl, HJ3, HH2⟩
     case measure => simp [intOf]
    ·
     obtain rfl : z = 2 := hz
     obtain ⟨z, hz1, hz2⟩ := HT.out 2 2 (by decide) (by decide)
     have HA1 := am hz1
     have HA2 := am hz2
     clear hz1 hz2
     unfold sym Ch.two at HA1
     unfold wide at HA2
     gi_wp2_with fail
     refine ⟨trivial, (callsIn_wide.2 (HA1.out wr (HG.out.below HH2.out.hb))).mono ?_⟩
     rintro e w1 ⟨rfl, hb1⟩
     replace HJ2 := am (HJ.out _ wr w1 none HJ2.out (grown_of_below hb1 none) (fun r e => by cases e))
     replace HH2 := am (HH2.out.step hb1)
     clear hb1
     gi_wp2_with fail
     refine ⟨trivial, (callsIn_wide.2 (HA2.out w1 (HG.out.below HH2.out.hb))).mono ?_⟩
     rintro e w2 ⟨rfl, hb1⟩
     replace HJ2 := am (HJ.out _ w1 w2 none HJ2.out (grown_of_below hb1 none) (fun r e => by cases e))
     replace HH2 := am (HH2.out.step hb1)
     clear hb1
     obtain ⟨fn, tmps, assign, body, hy, hround⟩ := HY.out _ (T 8) _ HJ2.out (by simp)
     dsimp only [encw] at hy
     have HRO := am hround
     clear hround
     gi_wp2
     refine HRO.out.mono ?_
     rintro e w3 ⟨rfl, hJ3, hk3⟩
     have HJ3 := am (show J ((List.range 9).map T) w3 by rw [show (9 : Nat) = 8 + 1 from rfl, upto_succ]; exact hJ3)
     replace HH2 := am (HH2.out.keeps hSi hSj hSt hk3)
     clear hJ3 hk3 HRO HJ2
     gi_wp2
     go_roundw
     case rel => exact ⟨3, _, rfl, by omega, rfl, HJ3, HH2⟩
     case measure => simp [intOf]
    ·
     obtain rfl : z = 3 := hz
     gi_wp2
     go_roundw
     case rel => exact ⟨3, _, rfl, by omega, rfl, HJ2, HH2⟩
     case measure => simp [intOf]
  ·
   obtain rfl : y = 3 := hy0
   gi_wp2
   go_end0
   exact ⟨⟨_, rfl⟩, _, rfl, HJ1.out⟩
end Go.Proofs.YtpdahkgandaabaaGreatDoor.Ch
