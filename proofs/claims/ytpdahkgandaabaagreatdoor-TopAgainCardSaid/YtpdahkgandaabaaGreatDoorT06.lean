/- A part of the proof of TopAgain, where the package's tables hold what their initialisers lay. -/
import Derived.ChangeKeysEq
import Derived.Test.YtpdahkgandaabaaGreatDoorT01
import Derived.Test.YtpdahkgandaabaaGreatDoorT04
import Derived.Test.YtpdahkgandaabaaGreatDoorT05
namespace Go.Proofs.YtpdahkgandaabaaGreatDoor.Ch
open Go.RowKit Go.Proofs.YtpdahkgandaabaaGreatDoorW.PrintWords Go.Proofs.YtpdahkgandaabaaGreatDoorW.PrintLast Go.Proofs.YtpdahkgandaabaaGreatDoorW.PrintMore Go.Proofs.YtpdahkgandaabaaGreatDoor.PTopNames Go.Proofs.YtpdahkgandaabaaGreatDoor.Al
set_option linter.unusedVariables false
set_option linter.unusedSimpArgs false
section
variable {P : Program} {ops : Array Oper} {Q : Exit → Act → World → Prop}
theorem goesv_ {oi : Oper} {N : Option Tmp} {a : Act} {w : World} {K : Act → World → Prop} {f : FuncId} {t : Tmp} {caps : Array Value} {os : Array Operand} {ts : Array TypeId} (hc : ∀ args w, (callFunc f args).run P w = .ok (.enter f args) w) (args : Array Value)
  (hw : Region.wanted oi (yielded ops a.tmps) = true) (hN : oi.dst = N) (hop : oi.op = .call { callee := .value (.tmp t), args := os, argTypes := ts }) (ht : a.tmps[t]?.getD undef = .func (.func f) #[] caps) (hargs : os.map a.eval = args)
  (h : Calls P f (args ++ caps) w fun e w' => ∃ v, e = .returned v ∧ K (a.put N v) w') : if Region.wanted oi (yielded ops a.tmps) = true then Oper.wp P oi a w K Q else K (a.put N undef) w := by
 refine call_ f (args ++ caps) hw hN ?_ h
 have he := hc (args ++ caps) w
 unfold execOp
 simp [hop, resolve, Deferred.ofValue, invoke, Act.eval, hargs, ht, he]
end
def vec (a b c : Int) : Value := .agg #[a, b, c]
def OV (x0 x1 x2 : Int) (k : Int) : Array Value := #[.int .i64 (if 1 ≤ k then x0 else 0), .int .i64 (if 2 ≤ k then x1 else 0), .int .i64 (if 3 ≤ k then x2 else 0)]
def TellsP (P : World → Prop) (F : Nat) (args : Array Value) (v : Value) : Prop := ∀ w, G w → P w → Calls Tryz.prog F args w fun e w' => e = .returned v ∧ Below w.heap.size w w'
theorem Tells.p {F : Nat} {args : Array Value} {v : Value} (h : Tells F args v) (P : World → Prop) : TellsP P F args v := fun w hG _ => h w hG
theorem three_set {w0 w : World} {b : Nat} {C : Array Value} (hC : C.size = 3) (hX : w.heap[b]? = some (.cells C 26 (0, 0))) (g : w0.heap.size ≤ b) (hB : Below w0.heap.size w0 w) (x y z : Value) :
  (((w.setCell ⟨b, 0, none⟩ x).setCell ⟨b, 1, none⟩ y).setCell ⟨b, 2, none⟩ z).heap[b]? = some (.cells #[x, y, z] 26 (0, 0)) ∧ Below w0.heap.size w0 (((w.setCell ⟨b, 0, none⟩ x).setCell ⟨b, 1, none⟩ y).setCell ⟨b, 2, none⟩ z) := by
 obtain ⟨c0, c1, c2, rfl⟩ : ∃ c0 c1 c2, C = #[c0, c1, c2] := by
  obtain ⟨l⟩ := C
  match l, hC with
  | [c0, c1, c2], _ => exact ⟨c0, c1, c2, rfl⟩
 exact ⟨blk_set (blk_set (blk_set hX 0 x) 1 y) 2 z, ((hB.setCell (p := ⟨b, 0, none⟩) g x).setCell (p := ⟨b, 1, none⟩) g y).setCell (p := ⟨b, 2, none⟩) g z⟩
theorem blocks4 (w : World) (x y z u : Array Value) (t s r q : TypeId) : ((((w.alloc (.cells x t)).alloc (.cells y s)).alloc (.cells z r)).alloc (.cells u q)).heap[w.heap.size]? = some (.cells x t (0, 0)) ∧ ((((w.alloc (.cells x t)).alloc (.cells y s)).alloc (.cells z r)).alloc (.cells u q)).heap[w.heap.size + 1]? = some (.cells y s (0, 0)) ∧
  ((((w.alloc (.cells x t)).alloc (.cells y s)).alloc (.cells z r)).alloc (.cells u q)).heap[w.heap.size + 1 + 1]? = some (.cells z r (0, 0)) ∧ ((((w.alloc (.cells x t)).alloc (.cells y s)).alloc (.cells z r)).alloc (.cells u q)).heap[w.heap.size + 1 + 1 + 1]? = some (.cells u q (0, 0)) ∧
  Below w.heap.size w ((((w.alloc (.cells x t)).alloc (.cells y s)).alloc (.cells z r)).alloc (.cells u q)) := by
 obtain ⟨h1, h2, h3, h4⟩ := blocks3 w x y z t s r
 have h := blk_new (((w.alloc (.cells x t)).alloc (.cells y s)).alloc (.cells z r)) (.cells u q)
 rw [size1, size1, size1] at h
 exact ⟨blk_alloc h1 _, blk_alloc h2 _, blk_alloc h3 _, h, below_alloc h4 _⟩
def RR (e0 e1 e2 y : Int) : Int := if e0 = 0 ∧ e1 = 0 ∧ e2 = 0 then y else 0
def EE (e0 e1 e2 : Int) : Int := if e0 = 0 then (if e1 = 0 then e2 else e1) else e0
set_option maxRecDepth 100000 in
set_option maxHeartbeats 4000000 in
theorem each_tells (a0 a1 a2 b0 b1 b2 : Int) (d : Nat) (caps : Array Value) (P : World → Prop) (hP : ∀ w w', P w → Below w.heap.size w w' → P w') (hc : ∀ args w, (callFunc d args).run Tryz.prog w = .ok (.enter d args) w) (y0 e0 y1 e1 y2 e2 : Int)
  (hd0 : TellsP P d (#[.int .i64 a0, .int .i64 b0] ++ caps) (Ch.two y0 e0)) (hd1 : TellsP P d (#[.int .i64 a1, .int .i64 b1] ++ caps) (Ch.two y1 e1)) (hd2 : TellsP P d (#[.int .i64 a2, .int .i64 b2] ++ caps) (Ch.two y2 e2)) :
  TellsP P 129 #[vec a0 a1 a2, vec b0 b1 b2, .func (.func d) #[] caps] (.tuple #[vec (RR e0 e1 e2 y0) (RR e0 e1 e2 y1) (RR e0 e1 e2 y2), .int .i64 (EE e0 e1 e2)]) := by
 intro w hG hp
 have HD0 := am hd0
 have HD1 := am hd1
 have HD2 := am hd2
 clear hd0 hd1 hd2
 unfold Ch.two at HD0 HD1 HD2
 by_cases h0 : e0 = 0
 ·
  subst h0
  by_cases h1 : e1 = 0
  ·
   subst h1
   by_cases h2 : e2 = 0
   ·
    subst h2
    rw [show RR 0 0 0 y0 = y0 from rfl, show RR 0 0 0 y1 = y1 from rfl, show RR 0 0 0 y2 = y2 from rfl, show EE 0 0 0 = 0 from rfl]
    have HG := am hG
    have HP := am hp
    clear hG hp
    unfold vec
    go_enter Tryz.func129, Tryz.ntmps129
    go_upto_region 2 with fail
    obtain ⟨x3, x4, x6, x8, hB⟩ := blocks4 w #[a0, a1, a2] #[b0, b1, b2] #[(), (), ()] #[(), (), ()] 26 26 26 26
    generalize (((w.alloc (.cells #[a0, a1, a2] 26)).alloc (.cells #[b0, b1, b2] 26)).alloc (.cells #[(), (), ()] 26)).alloc (.cells #[(), (), ()] 26) = w1 at x3 x4 x6 x8 hB ⊢
    obtain ⟨p3, h3⟩ := e_x (w.heap.size)
    obtain ⟨p4, h4⟩ := e_x (w.heap.size + 1)
    obtain ⟨p6, h6⟩ := e_x (w.heap.size + 1 + 1)
    obtain ⟨p8, h8⟩ := e_x (w.heap.size + 1 + 1 + 1)
    have g6 : w.heap.size ≤ p6 := by omega
    have g8 : w.heap.size ≤ p8 := by omega
    have n38 : p3 ≠ p8 := by omega
    have n48 : p4 ≠ p8 := by omega
    have n68 : p6 ≠ p8 := by omega
    rw [← h8, ← h6, ← h4, ← h3]
    rw [← h8] at x8
    rw [← h6] at x6
    rw [← h4] at x4
    rw [← h3] at x3
    have H3 := am x3
    have H4 := am x4
    have H6 := am x6
    have H8 := am (show w1.heap[p8]? = some (.cells (OV y0 y1 y2 0) 26 (0, 0)) from x8)
    have HB := am hB
    clear x3 x4 x6 x8 hB h3 h4 h6 h8
    go_wp2_with fail
    go_loopw [12] (fun v12 wr => ∃ k : Int, (0 ≤ k ∧ k ≤ 3) ∧ v12 = .int .i64 k ∧ Aside0 (wr.heap[p3]? = some (.cells #[a0, a1, a2] 26 (0, 0))) ∧ Aside0 (wr.heap[p4]? = some (.cells #[b0, b1, b2] 26 (0, 0))) ∧ Aside0 (wr.heap[p6]? = some (.cells #[(), (), ()] 26 (0, 0))) ∧ Aside0 (wr.heap[p8]? = some (.cells (OV y0 y1 y2 k) 26 (0, 0))) ∧ Aside0 (Below w.heap.size w wr)) (fun v12 _ => 4 - (intOf v12).toNat)
    case atStart => exact ⟨0, by decide, rfl, H3, H4, H6, H8, HB⟩
    case round =>
     clear H3 H4 H6 H8 HB
     obtain ⟨k, hk, rfl, H3, H4, H6, H8, HB⟩ := hrel
     have hk4 : k = 0 ∨ k = 1 ∨ k = 2 ∨ k = 3 := by omega
     clear hk
     rcases hk4 with rfl | rfl | rfl | rfl
     ·
      go_upto_region 5 with fail
      refine s_t 13 (fun w' => w'.heap[p3]? = some (.cells #[a0, a1, a2] 26 (0, 0)) ∧ w'.heap[p4]? = some (.cells #[b0, b1, b2] 26 (0, 0))) ⟨H3.out, H4.out⟩ (fun hHeld => ?_)
      replace H3 := b_d H3
      replace H4 := b_d H4
      replace H6 := b_d H6
      replace H8 := b_d H8
      replace HB := am (below_drew HB.out)
      generalize wr.drew = wd at H3 H4 H6 H8 HB hHeld ⊢
      refine p_u 0 16 13 1 ?_
      refine p_u 1 17 13 3 ?_
      refine p_u 2 18 13 7 ?_
      refine t_a 3 19 13 15 hHeld ?_ (hv := by rintro w' ⟨s0, s1⟩; have x := bcv s0 0 (.int .i64 a0) rfl; go_simp; with_reducible rfl)
      refine p_u 4 20 13 31 ?_
      refine p_u 5 21 13 63 ?_
      refine t_a 6 22 13 127 hHeld ?_ (hv := by rintro w' ⟨s0, s1⟩; have x := bcv s1 0 (.int .i64 b0) rfl; go_simp; with_reducible rfl)
      refine o_n 7 23 13 255 fun K hK => ?_
      refine goesv_ hc #[a0, b0] (by rfl) rfl rfl (by rfl) (by (try simp only [List.map_toArray, List.map_cons, List.map_nil]); first | done | rfl) ?_
      refine (HD0.out wd (HG.out.below HB.out) (hP _ _ HP.out HB.out)).mono ?_
      rintro e we ⟨rfl, hb⟩
      replace H3 := b_b H3 hb
      replace H4 := b_b H4 hb
      replace H6 := b_b H6 hb
      replace H8 := b_b H8 hb
      replace HB := b_s HB hb
      clear hb hHeld
      refine ⟨_, rfl, ?_⟩
      refine hK.out _ _ ⟨H3.out, H4.out⟩ (fun hHeld => ?_)
      clear hK K
      refine n_o 23 ?_
      refine p_u 8 15 13 511 ?_
      refine p_u 9 24 13 1023 ?_
      refine p_u 10 25 13 2047 ?_
      refine p_u 11 10 13 4095 ?_
      refine p_u 12 11 13 8191 ?_
      refine d_n ?_
      have z := b_v H8 0 (.int .i64 0) rfl
      have f := b_z H8 0
      go_wp2_with fail
      have q := (blk_set H8.out 0 (.int .i64 y0)).trans (show _ = some (Obj.cells (OV y0 y1 y2 1) 26 (0, 0)) by kernel_rfl)
      have q3 := blk_far H3.out (p := ⟨p8, 0, none⟩) n38 (.int .i64 y0)
      have q4 := blk_far H4.out (p := ⟨p8, 0, none⟩) n48 (.int .i64 y0)
      have q6 := blk_far H6.out (p := ⟨p8, 0, none⟩) n68 (.int .i64 y0)
      have qb := HB.out.setCell (p := ⟨p8, 0, none⟩) g8 (.int .i64 y0)
      go_roundw
      case rel => exact ⟨1, by decide, rfl, ⟨q3⟩, ⟨q4⟩, ⟨q6⟩, ⟨q⟩, ⟨qb⟩⟩
      case measure => decide
     ·
      go_upto_region 5 with fail
      refine s_t 13 (fun w' => w'.heap[p3]? = some (.cells #[a0, a1, a2] 26 (0, 0)) ∧ w'.heap[p4]? = some (.cells #[b0, b1, b2] 26 (0, 0))) ⟨H3.out, H4.out⟩ (fun hHeld => ?_)
      replace H3 := b_d H3
      replace H4 := b_d H4
      replace H6 := b_d H6
      replace H8 := b_d H8
      replace HB := am (below_drew HB.out)
      generalize wr.drew = wd at H3 H4 H6 H8 HB hHeld ⊢
      refine p_u 0 16 13 1 ?_
      refine p_u 1 17 13 3 ?_
      refine p_u 2 18 13 7 ?_
      refine t_a 3 19 13 15 hHeld ?_ (hv := by rintro w' ⟨s0, s1⟩; have x := bcv s0 1 (.int .i64 a1) rfl; go_simp; with_reducible rfl)
      refine p_u 4 20 13 31 ?_
      refine p_u 5 21 13 63 ?_
      refine t_a 6 22 13 127 hHeld ?_ (hv := by rintro w' ⟨s0, s1⟩; have x := bcv s1 1 (.int .i64 b1) rfl; go_simp; with_reducible rfl)
      refine o_n 7 23 13 255 fun K hK => ?_
      refine goesv_ hc #[a1, b1] (by rfl) rfl rfl (by rfl) (by (try simp only [List.map_toArray, List.map_cons, List.map_nil]); first | done | rfl) ?_
      refine (HD1.out wd (HG.out.below HB.out) (hP _ _ HP.out HB.out)).mono ?_
      rintro e we ⟨rfl, hb⟩
      replace H3 := b_b H3 hb
      replace H4 := b_b H4 hb
      replace H6 := b_b H6 hb
      replace H8 := b_b H8 hb
      replace HB := b_s HB hb
      clear hb hHeld
      refine ⟨_, rfl, ?_⟩
      refine hK.out _ _ ⟨H3.out, H4.out⟩ (fun hHeld => ?_)
      clear hK K
      refine n_o 23 ?_
      refine p_u 8 15 13 511 ?_
      refine p_u 9 24 13 1023 ?_
      refine p_u 10 25 13 2047 ?_
      refine p_u 11 10 13 4095 ?_
      refine p_u 12 11 13 8191 ?_
      refine d_n ?_
      have z := b_v H8 1 (.int .i64 0) rfl
      have f := b_z H8 1
      go_wp2_with fail
      have q := (blk_set H8.out 1 (.int .i64 y1)).trans (show _ = some (Obj.cells (OV y0 y1 y2 2) 26 (0, 0)) by kernel_rfl)
      have q3 := blk_far H3.out (p := ⟨p8, 1, none⟩) n38 (.int .i64 y1)
      have q4 := blk_far H4.out (p := ⟨p8, 1, none⟩) n48 (.int .i64 y1)
      have q6 := blk_far H6.out (p := ⟨p8, 1, none⟩) n68 (.int .i64 y1)
      have qb := HB.out.setCell (p := ⟨p8, 1, none⟩) g8 (.int .i64 y1)
      go_roundw
      case rel => exact ⟨2, by decide, rfl, ⟨q3⟩, ⟨q4⟩, ⟨q6⟩, ⟨q⟩, ⟨qb⟩⟩
      case measure => decide
     ·
      go_upto_region 5 with fail
      refine s_t 13 (fun w' => w'.heap[p3]? = some (.cells #[a0, a1, a2] 26 (0, 0)) ∧ w'.heap[p4]? = some (.cells #[b0, b1, b2] 26 (0, 0))) ⟨H3.out, H4.out⟩ (fun hHeld => ?_)
      replace H3 := b_d H3
      replace H4 := b_d H4
      replace H6 := b_d H6
      replace H8 := b_d H8
      replace HB := am (below_drew HB.out)
      generalize wr.drew = wd at H3 H4 H6 H8 HB hHeld ⊢
      refine p_u 0 16 13 1 ?_
      refine p_u 1 17 13 3 ?_
      refine p_u 2 18 13 7 ?_
      refine t_a 3 19 13 15 hHeld ?_ (hv := by rintro w' ⟨s0, s1⟩; have x := bcv s0 2 (.int .i64 a2) rfl; go_simp; with_reducible rfl)
      refine p_u 4 20 13 31 ?_
      refine p_u 5 21 13 63 ?_
      refine t_a 6 22 13 127 hHeld ?_ (hv := by rintro w' ⟨s0, s1⟩; have x := bcv s1 2 (.int .i64 b2) rfl; go_simp; with_reducible rfl)
      refine o_n 7 23 13 255 fun K hK => ?_
      refine goesv_ hc #[a2, b2] (by rfl) rfl rfl (by rfl) (by (try simp only [List.map_toArray, List.map_cons, List.map_nil]); first | done | rfl) ?_
      refine (HD2.out wd (HG.out.below HB.out) (hP _ _ HP.out HB.out)).mono ?_
      rintro e we ⟨rfl, hb⟩
      replace H3 := b_b H3 hb
      replace H4 := b_b H4 hb
      replace H6 := b_b H6 hb
      replace H8 := b_b H8 hb
      replace HB := b_s HB hb
      clear hb hHeld
      refine ⟨_, rfl, ?_⟩
      refine hK.out _ _ ⟨H3.out, H4.out⟩ (fun hHeld => ?_)
      clear hK K
      refine n_o 23 ?_
      refine p_u 8 15 13 511 ?_
      refine p_u 9 24 13 1023 ?_
      refine p_u 10 25 13 2047 ?_
      refine p_u 11 10 13 4095 ?_
      refine p_u 12 11 13 8191 ?_
      refine d_n ?_
      have z := b_v H8 2 (.int .i64 0) rfl
      have f := b_z H8 2
      go_wp2_with fail
      have q := (blk_set H8.out 2 (.int .i64 y2)).trans (show _ = some (Obj.cells (OV y0 y1 y2 3) 26 (0, 0)) by kernel_rfl)
      have q3 := blk_far H3.out (p := ⟨p8, 2, none⟩) n38 (.int .i64 y2)
      have q4 := blk_far H4.out (p := ⟨p8, 2, none⟩) n48 (.int .i64 y2)
      have q6 := blk_far H6.out (p := ⟨p8, 2, none⟩) n68 (.int .i64 y2)
      have qb := HB.out.setCell (p := ⟨p8, 2, none⟩) g8 (.int .i64 y2)
      go_roundw
      case rel => exact ⟨3, by decide, rfl, ⟨q3⟩, ⟨q4⟩, ⟨q6⟩, ⟨q⟩, ⟨qb⟩⟩
      case measure => decide
     have z0 := b_v H8 0 (.int .i64 y0) rfl
     have z1 := b_v H8 1 (.int .i64 y1) rfl
     have z2 := b_v H8 2 (.int .i64 y2) rfl
     have u0 := b_v H6 0 (.int .i64 0) rfl
     have u1 := b_v H6 1 (.int .i64 0) rfl
     have u2 := b_v H6 2 (.int .i64 0) rfl
     have f0 := b_z H6 0
     have f1 := b_z H6 1
     have f2 := b_z H6 2
     go_wp2_with fail
     obtain ⟨q, qb⟩ := three_set rfl H6.out g6 HB.out (.int .i64 y0) (.int .i64 y1) (.int .i64 y2)
     exact bodyPost_ret (results_ct rfl _ _ p6 26 _ (0, 0) _ rfl q Tryz.underlying26 rfl (by kernel_rfl)) rfl ⟨rfl, qb⟩
   have q1 : (e2 == 0) = false := by simp [h2]
   have q2 : decide (e2 = 0) = false := decide_eq_false h2
   have r : ∀ y, RR 0 0 e2 y = 0 := fun y => by simp [RR, h2]
   rw [r, r, r, show EE 0 0 e2 = e2 by simp [EE]]
   clear r
   have HG := am hG
   have HP := am hp
   clear hG hp
   unfold vec
   go_enter Tryz.func129, Tryz.ntmps129
   go_upto_region 2 with fail
   obtain ⟨x3, x4, x6, x8, hB⟩ := blocks4 w #[a0, a1, a2] #[b0, b1, b2] #[(), (), ()] #[(), (), ()] 26 26 26 26
   generalize (((w.alloc (.cells #[a0, a1, a2] 26)).alloc (.cells #[b0, b1, b2] 26)).alloc (.cells #[(), (), ()] 26)).alloc (.cells #[(), (), ()] 26) = w1 at x3 x4 x6 x8 hB ⊢
   obtain ⟨p3, h3⟩ := e_x (w.heap.size)
   obtain ⟨p4, h4⟩ := e_x (w.heap.size + 1)
   obtain ⟨p6, h6⟩ := e_x (w.heap.size + 1 + 1)
   obtain ⟨p8, h8⟩ := e_x (w.heap.size + 1 + 1 + 1)
   have g6 : w.heap.size ≤ p6 := by omega
   have g8 : w.heap.size ≤ p8 := by omega
   have n38 : p3 ≠ p8 := by omega
   have n48 : p4 ≠ p8 := by omega
   have n68 : p6 ≠ p8 := by omega
   rw [← h8, ← h6, ← h4, ← h3]
   rw [← h8] at x8
   rw [← h6] at x6
   rw [← h4] at x4
   rw [← h3] at x3
   have H3 := am x3
   have H4 := am x4
   have H6 := am x6
   have H8 := am (show w1.heap[p8]? = some (.cells (OV y0 y1 y2 0) 26 (0, 0)) from x8)
   have HB := am hB
   clear x3 x4 x6 x8 hB h3 h4 h6 h8
   go_wp2_with fail
   go_loopw [12] (fun v12 wr => ∃ k : Int, (0 ≤ k ∧ k ≤ 2) ∧ v12 = .int .i64 k ∧ Aside0 (wr.heap[p3]? = some (.cells #[a0, a1, a2] 26 (0, 0))) ∧ Aside0 (wr.heap[p4]? = some (.cells #[b0, b1, b2] 26 (0, 0))) ∧ Aside0 (wr.heap[p6]? = some (.cells #[(), (), ()] 26 (0, 0))) ∧ Aside0 (wr.heap[p8]? = some (.cells (OV y0 y1 y2 k) 26 (0, 0))) ∧ Aside0 (Below w.heap.size w wr)) (fun v12 _ => 4 - (intOf v12).toNat)
   case atStart => exact ⟨0, by decide, rfl, H3, H4, H6, H8, HB⟩
   case round =>
    clear H3 H4 H6 H8 HB
    obtain ⟨k, hk, rfl, H3, H4, H6, H8, HB⟩ := hrel
    have hk4 : k = 0 ∨ k = 1 ∨ k = 2 := by omega
    clear hk
    rcases hk4 with rfl | rfl | rfl
    ·
     go_upto_region 5 with fail
     refine s_t 13 (fun w' => w'.heap[p3]? = some (.cells #[a0, a1, a2] 26 (0, 0)) ∧ w'.heap[p4]? = some (.cells #[b0, b1, b2] 26 (0, 0))) ⟨H3.out, H4.out⟩ (fun hHeld => ?_)
     replace H3 := b_d H3
     replace H4 := b_d H4
     replace H6 := b_d H6
     replace H8 := b_d H8
     replace HB := am (below_drew HB.out)
     generalize wr.drew = wd at H3 H4 H6 H8 HB hHeld ⊢
     refine p_u 0 16 13 1 ?_
     refine p_u 1 17 13 3 ?_
     refine p_u 2 18 13 7 ?_
     refine t_a 3 19 13 15 hHeld ?_ (hv := by rintro w' ⟨s0, s1⟩; have x := bcv s0 0 (.int .i64 a0) rfl; go_simp; with_reducible rfl)
     refine p_u 4 20 13 31 ?_
     refine p_u 5 21 13 63 ?_
     refine t_a 6 22 13 127 hHeld ?_ (hv := by rintro w' ⟨s0, s1⟩; have x := bcv s1 0 (.int .i64 b0) rfl; go_simp; with_reducible rfl)
     refine o_n 7 23 13 255 fun K hK => ?_
     refine goesv_ hc #[a0, b0] (by rfl) rfl rfl (by rfl) (by (try simp only [List.map_toArray, List.map_cons, List.map_nil]); first | done | rfl) ?_
     refine (HD0.out wd (HG.out.below HB.out) (hP _ _ HP.out HB.out)).mono ?_
     rintro e we ⟨rfl, hb⟩
     replace H3 := b_b H3 hb
     replace H4 := b_b H4 hb
     replace H6 := b_b H6 hb
     replace H8 := b_b H8 hb
     replace HB := b_s HB hb
     clear hb hHeld
     refine ⟨_, rfl, ?_⟩
     refine hK.out _ _ ⟨H3.out, H4.out⟩ (fun hHeld => ?_)
     clear hK K
     refine n_o 23 ?_
     refine p_u 8 15 13 511 ?_
     refine p_u 9 24 13 1023 ?_
     refine p_u 10 25 13 2047 ?_
     refine p_u 11 10 13 4095 ?_
     refine p_u 12 11 13 8191 ?_
     refine d_n ?_
     have z := b_v H8 0 (.int .i64 0) rfl
     have f := b_z H8 0
     go_wp2_with fail
     have q := (blk_set H8.out 0 (.int .i64 y0)).trans (show _ = some (Obj.cells (OV y0 y1 y2 1) 26 (0, 0)) by kernel_rfl)
     have q3 := blk_far H3.out (p := ⟨p8, 0, none⟩) n38 (.int .i64 y0)
     have q4 := blk_far H4.out (p := ⟨p8, 0, none⟩) n48 (.int .i64 y0)
     have q6 := blk_far H6.out (p := ⟨p8, 0, none⟩) n68 (.int .i64 y0)
     have qb := HB.out.setCell (p := ⟨p8, 0, none⟩) g8 (.int .i64 y0)
     go_roundw
     case rel => exact ⟨1, by decide, rfl, ⟨q3⟩, ⟨q4⟩, ⟨q6⟩, ⟨q⟩, ⟨qb⟩⟩
     case measure => decide
    ·
     go_upto_region 5 with fail
     refine s_t 13 (fun w' => w'.heap[p3]? = some (.cells #[a0, a1, a2] 26 (0, 0)) ∧ w'.heap[p4]? = some (.cells #[b0, b1, b2] 26 (0, 0))) ⟨H3.out, H4.out⟩ (fun hHeld => ?_)
     replace H3 := b_d H3
     replace H4 := b_d H4
     replace H6 := b_d H6
     replace H8 := b_d H8
     replace HB := am (below_drew HB.out)
     generalize wr.drew = wd at H3 H4 H6 H8 HB hHeld ⊢
     refine p_u 0 16 13 1 ?_
     refine p_u 1 17 13 3 ?_
     refine p_u 2 18 13 7 ?_
     refine t_a 3 19 13 15 hHeld ?_ (hv := by rintro w' ⟨s0, s1⟩; have x := bcv s0 1 (.int .i64 a1) rfl; go_simp; with_reducible rfl)
     refine p_u 4 20 13 31 ?_
     refine p_u 5 21 13 63 ?_
     refine t_a 6 22 13 127 hHeld ?_ (hv := by rintro w' ⟨s0, s1⟩; have x := bcv s1 1 (.int .i64 b1) rfl; go_simp; with_reducible rfl)
     refine o_n 7 23 13 255 fun K hK => ?_
     refine goesv_ hc #[a1, b1] (by rfl) rfl rfl (by rfl) (by (try simp only [List.map_toArray, List.map_cons, List.map_nil]); first | done | rfl) ?_
     refine (HD1.out wd (HG.out.below HB.out) (hP _ _ HP.out HB.out)).mono ?_
     rintro e we ⟨rfl, hb⟩
     replace H3 := b_b H3 hb
     replace H4 := b_b H4 hb
     replace H6 := b_b H6 hb
     replace H8 := b_b H8 hb
     replace HB := b_s HB hb
     clear hb hHeld
     refine ⟨_, rfl, ?_⟩
     refine hK.out _ _ ⟨H3.out, H4.out⟩ (fun hHeld => ?_)
     clear hK K
     refine n_o 23 ?_
     refine p_u 8 15 13 511 ?_
     refine p_u 9 24 13 1023 ?_
     refine p_u 10 25 13 2047 ?_
     refine p_u 11 10 13 4095 ?_
     refine p_u 12 11 13 8191 ?_
     refine d_n ?_
     have z := b_v H8 1 (.int .i64 0) rfl
     have f := b_z H8 1
     go_wp2_with fail
     have q := (blk_set H8.out 1 (.int .i64 y1)).trans (show _ = some (Obj.cells (OV y0 y1 y2 2) 26 (0, 0)) by kernel_rfl)
     have q3 := blk_far H3.out (p := ⟨p8, 1, none⟩) n38 (.int .i64 y1)
     have q4 := blk_far H4.out (p := ⟨p8, 1, none⟩) n48 (.int .i64 y1)
     have q6 := blk_far H6.out (p := ⟨p8, 1, none⟩) n68 (.int .i64 y1)
     have qb := HB.out.setCell (p := ⟨p8, 1, none⟩) g8 (.int .i64 y1)
     go_roundw
     case rel => exact ⟨2, by decide, rfl, ⟨q3⟩, ⟨q4⟩, ⟨q6⟩, ⟨q⟩, ⟨qb⟩⟩
     case measure => decide
    go_upto_region 5 with fail
    refine s_t 13 (fun w' => w'.heap[p3]? = some (.cells #[a0, a1, a2] 26 (0, 0)) ∧ w'.heap[p4]? = some (.cells #[b0, b1, b2] 26 (0, 0))) ⟨H3.out, H4.out⟩ (fun hHeld => ?_)
    replace H3 := b_d H3
    replace H4 := b_d H4
    replace H6 := b_d H6
    replace H8 := b_d H8
    replace HB := am (below_drew HB.out)
    generalize wr.drew = wd at H3 H4 H6 H8 HB hHeld ⊢
    refine p_u 0 16 13 1 ?_
    refine p_u 1 17 13 3 ?_
    refine p_u 2 18 13 7 ?_
    refine t_a 3 19 13 15 hHeld ?_ (hv := by rintro w' ⟨s0, s1⟩; have x := bcv s0 2 (.int .i64 a2) rfl; go_simp; with_reducible rfl)
    refine p_u 4 20 13 31 ?_
    refine p_u 5 21 13 63 ?_
    refine t_a 6 22 13 127 hHeld ?_ (hv := by rintro w' ⟨s0, s1⟩; have x := bcv s1 2 (.int .i64 b2) rfl; go_simp; with_reducible rfl)
    refine o_n 7 23 13 255 fun K hK => ?_
    refine goesv_ hc #[a2, b2] (by rfl) rfl rfl (by rfl) (by (try simp only [List.map_toArray, List.map_cons, List.map_nil]); first | done | rfl) ?_
    refine (HD2.out wd (HG.out.below HB.out) (hP _ _ HP.out HB.out)).mono ?_
    rintro e we ⟨rfl, hb⟩
    replace H3 := b_b H3 hb
    replace H4 := b_b H4 hb
    replace H6 := b_b H6 hb
    replace H8 := b_b H8 hb
    replace HB := b_s HB hb
    clear hb hHeld
    refine ⟨_, rfl, ?_⟩
    refine hK.out _ _ ⟨H3.out, H4.out⟩ (fun hHeld => ?_)
    clear hK K
    refine n_o 23 ?_
    refine p_u 8 15 13 511 ?_
    refine p_u 9 24 13 1023 ?_
    refine p_u 10 25 13 2047 ?_
    refine p_u 11 10 13 4095 ?_
    refine p_u 12 11 13 8191 ?_
    refine d_n ?_
    have z0 := b_v H6 0 (.int .i64 0) rfl
    have z1 := b_v H6 1 (.int .i64 0) rfl
    have z2 := b_v H6 2 (.int .i64 0) rfl
    have f0 := b_z H6 0
    have f1 := b_z H6 1
    have f2 := b_z H6 2
    go_wp2_with fail
    obtain ⟨q, qb⟩ := three_set rfl H6.out g6 HB.out (.int .i64 0) (.int .i64 0) (.int .i64 0)
    exact bodyPost_ret (results_ct rfl _ _ p6 26 _ (0, 0) _ rfl q Tryz.underlying26 rfl (by kernel_rfl)) rfl ⟨rfl, qb⟩
  have q1 : (e1 == 0) = false := by simp [h1]
  have q2 : decide (e1 = 0) = false := decide_eq_false h1
  have r : ∀ y, RR 0 e1 e2 y = 0 := fun y => by simp [RR, h1]
  rw [r, r, r, show EE 0 e1 e2 = e1 by simp [EE, h1]]
  clear r
  have HG := am hG
  have HP := am hp
  clear hG hp
  unfold vec
  go_enter Tryz.func129, Tryz.ntmps129
  go_upto_region 2 with fail
  obtain ⟨x3, x4, x6, x8, hB⟩ := blocks4 w #[a0, a1, a2] #[b0, b1, b2] #[(), (), ()] #[(), (), ()] 26 26 26 26
  generalize (((w.alloc (.cells #[a0, a1, a2] 26)).alloc (.cells #[b0, b1, b2] 26)).alloc (.cells #[(), (), ()] 26)).alloc (.cells #[(), (), ()] 26) = w1 at x3 x4 x6 x8 hB ⊢
  obtain ⟨p3, h3⟩ := e_x (w.heap.size)
  obtain ⟨p4, h4⟩ := e_x (w.heap.size + 1)
  obtain ⟨p6, h6⟩ := e_x (w.heap.size + 1 + 1)
  obtain ⟨p8, h8⟩ := e_x (w.heap.size + 1 + 1 + 1)
  have g6 : w.heap.size ≤ p6 := by omega
  have g8 : w.heap.size ≤ p8 := by omega
  have n38 : p3 ≠ p8 := by omega
  have n48 : p4 ≠ p8 := by omega
  have n68 : p6 ≠ p8 := by omega
  rw [← h8, ← h6, ← h4, ← h3]
  rw [← h8] at x8
  rw [← h6] at x6
  rw [← h4] at x4
  rw [← h3] at x3
  have H3 := am x3
  have H4 := am x4
  have H6 := am x6
  have H8 := am (show w1.heap[p8]? = some (.cells (OV y0 y1 y2 0) 26 (0, 0)) from x8)
  have HB := am hB
  clear x3 x4 x6 x8 hB h3 h4 h6 h8
  go_wp2_with fail
  go_loopw [12] (fun v12 wr => ∃ k : Int, (0 ≤ k ∧ k ≤ 1) ∧ v12 = .int .i64 k ∧ Aside0 (wr.heap[p3]? = some (.cells #[a0, a1, a2] 26 (0, 0))) ∧ Aside0 (wr.heap[p4]? = some (.cells #[b0, b1, b2] 26 (0, 0))) ∧ Aside0 (wr.heap[p6]? = some (.cells #[(), (), ()] 26 (0, 0))) ∧ Aside0 (wr.heap[p8]? = some (.cells (OV y0 y1 y2 k) 26 (0, 0))) ∧ Aside0 (Below w.heap.size w wr)) (fun v12 _ => 4 - (intOf v12).toNat)
  case atStart => exact ⟨0, by decide, rfl, H3, H4, H6, H8, HB⟩
  case round =>
   clear H3 H4 H6 H8 HB
   obtain ⟨k, hk, rfl, H3, H4, H6, H8, HB⟩ := hrel
   have hk4 : k = 0 ∨ k = 1 := by omega
   clear hk
   rcases hk4 with rfl | rfl
   ·
    go_upto_region 5 with fail
    refine s_t 13 (fun w' => w'.heap[p3]? = some (.cells #[a0, a1, a2] 26 (0, 0)) ∧ w'.heap[p4]? = some (.cells #[b0, b1, b2] 26 (0, 0))) ⟨H3.out, H4.out⟩ (fun hHeld => ?_)
    replace H3 := b_d H3
    replace H4 := b_d H4
    replace H6 := b_d H6
    replace H8 := b_d H8
    replace HB := am (below_drew HB.out)
    generalize wr.drew = wd at H3 H4 H6 H8 HB hHeld ⊢
    refine p_u 0 16 13 1 ?_
    refine p_u 1 17 13 3 ?_
    refine p_u 2 18 13 7 ?_
    refine t_a 3 19 13 15 hHeld ?_ (hv := by rintro w' ⟨s0, s1⟩; have x := bcv s0 0 (.int .i64 a0) rfl; go_simp; with_reducible rfl)
    refine p_u 4 20 13 31 ?_
    refine p_u 5 21 13 63 ?_
    refine t_a 6 22 13 127 hHeld ?_ (hv := by rintro w' ⟨s0, s1⟩; have x := bcv s1 0 (.int .i64 b0) rfl; go_simp; with_reducible rfl)
    refine o_n 7 23 13 255 fun K hK => ?_
    refine goesv_ hc #[a0, b0] (by rfl) rfl rfl (by rfl) (by (try simp only [List.map_toArray, List.map_cons, List.map_nil]); first | done | rfl) ?_
    refine (HD0.out wd (HG.out.below HB.out) (hP _ _ HP.out HB.out)).mono ?_
    rintro e we ⟨rfl, hb⟩
    replace H3 := b_b H3 hb
    replace H4 := b_b H4 hb
    replace H6 := b_b H6 hb
    replace H8 := b_b H8 hb
    replace HB := b_s HB hb
    clear hb hHeld
    refine ⟨_, rfl, ?_⟩
    refine hK.out _ _ ⟨H3.out, H4.out⟩ (fun hHeld => ?_)
    clear hK K
    refine n_o 23 ?_
    refine p_u 8 15 13 511 ?_
    refine p_u 9 24 13 1023 ?_
    refine p_u 10 25 13 2047 ?_
    refine p_u 11 10 13 4095 ?_
    refine p_u 12 11 13 8191 ?_
    refine d_n ?_
    have z := b_v H8 0 (.int .i64 0) rfl
    have f := b_z H8 0
    go_wp2_with fail
    have q := (blk_set H8.out 0 (.int .i64 y0)).trans (show _ = some (Obj.cells (OV y0 y1 y2 1) 26 (0, 0)) by kernel_rfl)
    have q3 := blk_far H3.out (p := ⟨p8, 0, none⟩) n38 (.int .i64 y0)
    have q4 := blk_far H4.out (p := ⟨p8, 0, none⟩) n48 (.int .i64 y0)
    have q6 := blk_far H6.out (p := ⟨p8, 0, none⟩) n68 (.int .i64 y0)
    have qb := HB.out.setCell (p := ⟨p8, 0, none⟩) g8 (.int .i64 y0)
    go_roundw
    case rel => exact ⟨1, by decide, rfl, ⟨q3⟩, ⟨q4⟩, ⟨q6⟩, ⟨q⟩, ⟨qb⟩⟩
    case measure => decide
   go_upto_region 5 with fail
   refine s_t 13 (fun w' => w'.heap[p3]? = some (.cells #[a0, a1, a2] 26 (0, 0)) ∧ w'.heap[p4]? = some (.cells #[b0, b1, b2] 26 (0, 0))) ⟨H3.out, H4.out⟩ (fun hHeld => ?_)
   replace H3 := b_d H3
   replace H4 := b_d H4
   replace H6 := b_d H6
   replace H8 := b_d H8
   replace HB := am (below_drew HB.out)
   generalize wr.drew = wd at H3 H4 H6 H8 HB hHeld ⊢
   refine p_u 0 16 13 1 ?_
   refine p_u 1 17 13 3 ?_
   refine p_u 2 18 13 7 ?_
   refine t_a 3 19 13 15 hHeld ?_ (hv := by rintro w' ⟨s0, s1⟩; have x := bcv s0 1 (.int .i64 a1) rfl; go_simp; with_reducible rfl)
   refine p_u 4 20 13 31 ?_
   refine p_u 5 21 13 63 ?_
   refine t_a 6 22 13 127 hHeld ?_ (hv := by rintro w' ⟨s0, s1⟩; have x := bcv s1 1 (.int .i64 b1) rfl; go_simp; with_reducible rfl)
   refine o_n 7 23 13 255 fun K hK => ?_
   refine goesv_ hc #[a1, b1] (by rfl) rfl rfl (by rfl) (by (try simp only [List.map_toArray, List.map_cons, List.map_nil]); first | done | rfl) ?_
   refine (HD1.out wd (HG.out.below HB.out) (hP _ _ HP.out HB.out)).mono ?_
   rintro e we ⟨rfl, hb⟩
   replace H3 := b_b H3 hb
   replace H4 := b_b H4 hb
   replace H6 := b_b H6 hb
   replace H8 := b_b H8 hb
   replace HB := b_s HB hb
   clear hb hHeld
   refine ⟨_, rfl, ?_⟩
   refine hK.out _ _ ⟨H3.out, H4.out⟩ (fun hHeld => ?_)
   clear hK K
   refine n_o 23 ?_
   refine p_u 8 15 13 511 ?_
   refine p_u 9 24 13 1023 ?_
   refine p_u 10 25 13 2047 ?_
   refine p_u 11 10 13 4095 ?_
   refine p_u 12 11 13 8191 ?_
   refine d_n ?_
   have z0 := b_v H6 0 (.int .i64 0) rfl
   have z1 := b_v H6 1 (.int .i64 0) rfl
   have z2 := b_v H6 2 (.int .i64 0) rfl
   have f0 := b_z H6 0
   have f1 := b_z H6 1
   have f2 := b_z H6 2
   go_wp2_with fail
   obtain ⟨q, qb⟩ := three_set rfl H6.out g6 HB.out (.int .i64 0) (.int .i64 0) (.int .i64 0)
   exact bodyPost_ret (results_ct rfl _ _ p6 26 _ (0, 0) _ rfl q Tryz.underlying26 rfl (by kernel_rfl)) rfl ⟨rfl, qb⟩
 have q1 : (e0 == 0) = false := by simp [h0]
 have q2 : decide (e0 = 0) = false := decide_eq_false h0
 have r : ∀ y, RR e0 e1 e2 y = 0 := fun y => by simp [RR, h0]
 rw [r, r, r, show EE e0 e1 e2 = e0 by simp [EE, h0]]
 clear r
 have HG := am hG
 have HP := am hp
 clear hG hp
 unfold vec
 go_enter Tryz.func129, Tryz.ntmps129
 go_upto_region 2 with fail
 obtain ⟨x3, x4, x6, x8, hB⟩ := blocks4 w #[a0, a1, a2] #[b0, b1, b2] #[(), (), ()] #[(), (), ()] 26 26 26 26
 generalize (((w.alloc (.cells #[a0, a1, a2] 26)).alloc (.cells #[b0, b1, b2] 26)).alloc (.cells #[(), (), ()] 26)).alloc (.cells #[(), (), ()] 26) = w1 at x3 x4 x6 x8 hB ⊢
 obtain ⟨p3, h3⟩ := e_x (w.heap.size)
 obtain ⟨p4, h4⟩ := e_x (w.heap.size + 1)
 obtain ⟨p6, h6⟩ := e_x (w.heap.size + 1 + 1)
 obtain ⟨p8, h8⟩ := e_x (w.heap.size + 1 + 1 + 1)
 have g6 : w.heap.size ≤ p6 := by omega
 have g8 : w.heap.size ≤ p8 := by omega
 have n38 : p3 ≠ p8 := by omega
 have n48 : p4 ≠ p8 := by omega
 have n68 : p6 ≠ p8 := by omega
 rw [← h8, ← h6, ← h4, ← h3]
 rw [← h8] at x8
 rw [← h6] at x6
 rw [← h4] at x4
 rw [← h3] at x3
 have H3 := am x3
 have H4 := am x4
 have H6 := am x6
 have H8 := am (show w1.heap[p8]? = some (.cells (OV y0 y1 y2 0) 26 (0, 0)) from x8)
 have HB := am hB
 clear x3 x4 x6 x8 hB h3 h4 h6 h8
 go_wp2_with fail
 go_loopw [12] (fun v12 wr => ∃ k : Int, (0 ≤ k ∧ k ≤ 0) ∧ v12 = .int .i64 k ∧ Aside0 (wr.heap[p3]? = some (.cells #[a0, a1, a2] 26 (0, 0))) ∧ Aside0 (wr.heap[p4]? = some (.cells #[b0, b1, b2] 26 (0, 0))) ∧ Aside0 (wr.heap[p6]? = some (.cells #[(), (), ()] 26 (0, 0))) ∧ Aside0 (wr.heap[p8]? = some (.cells (OV y0 y1 y2 k) 26 (0, 0))) ∧ Aside0 (Below w.heap.size w wr)) (fun v12 _ => 4 - (intOf v12).toNat)
 case atStart => exact ⟨0, by decide, rfl, H3, H4, H6, H8, HB⟩
 case round =>
  clear H3 H4 H6 H8 HB
  obtain ⟨k, hk, rfl, H3, H4, H6, H8, HB⟩ := hrel
  have hk4 : k = 0 := by omega
  clear hk
  obtain rfl := hk4
  go_upto_region 5 with fail
  refine s_t 13 (fun w' => w'.heap[p3]? = some (.cells #[a0, a1, a2] 26 (0, 0)) ∧ w'.heap[p4]? = some (.cells #[b0, b1, b2] 26 (0, 0))) ⟨H3.out, H4.out⟩ (fun hHeld => ?_)
  replace H3 := b_d H3
  replace H4 := b_d H4
  replace H6 := b_d H6
  replace H8 := b_d H8
  replace HB := am (below_drew HB.out)
  generalize wr.drew = wd at H3 H4 H6 H8 HB hHeld ⊢
  refine p_u 0 16 13 1 ?_
  refine p_u 1 17 13 3 ?_
  refine p_u 2 18 13 7 ?_
  refine t_a 3 19 13 15 hHeld ?_ (hv := by rintro w' ⟨s0, s1⟩; have x := bcv s0 0 (.int .i64 a0) rfl; go_simp; with_reducible rfl)
  refine p_u 4 20 13 31 ?_
  refine p_u 5 21 13 63 ?_
  refine t_a 6 22 13 127 hHeld ?_ (hv := by rintro w' ⟨s0, s1⟩; have x := bcv s1 0 (.int .i64 b0) rfl; go_simp; with_reducible rfl)
  refine o_n 7 23 13 255 fun K hK => ?_
  refine goesv_ hc #[a0, b0] (by rfl) rfl rfl (by rfl) (by (try simp only [List.map_toArray, List.map_cons, List.map_nil]); first | done | rfl) ?_
  refine (HD0.out wd (HG.out.below HB.out) (hP _ _ HP.out HB.out)).mono ?_
  rintro e we ⟨rfl, hb⟩
  replace H3 := b_b H3 hb
  replace H4 := b_b H4 hb
  replace H6 := b_b H6 hb
  replace H8 := b_b H8 hb
  replace HB := b_s HB hb
  clear hb hHeld
  refine ⟨_, rfl, ?_⟩
  refine hK.out _ _ ⟨H3.out, H4.out⟩ (fun hHeld => ?_)
  clear hK K
  refine n_o 23 ?_
  refine p_u 8 15 13 511 ?_
  refine p_u 9 24 13 1023 ?_
  refine p_u 10 25 13 2047 ?_
  refine p_u 11 10 13 4095 ?_
  refine p_u 12 11 13 8191 ?_
  refine d_n ?_
  have z0 := b_v H6 0 (.int .i64 0) rfl
  have z1 := b_v H6 1 (.int .i64 0) rfl
  have z2 := b_v H6 2 (.int .i64 0) rfl
  have f0 := b_z H6 0
  have f1 := b_z H6 1
  have f2 := b_z H6 2
  go_wp2_with fail
  obtain ⟨q, qb⟩ := three_set rfl H6.out g6 HB.out (.int .i64 0) (.int .i64 0) (.int .i64 0)
  exact bodyPost_ret (results_ct rfl _ _ p6 26 _ (0, 0) _ rfl q Tryz.underlying26 rfl (by kernel_rfl)) rfl ⟨rfl, qb⟩
end Go.Proofs.YtpdahkgandaabaaGreatDoor.Ch
namespace Go.Proofs.YtpdahkgandaabaaGreatDoor.Ch
open Go.RowKit Go.Proofs.YtpdahkgandaabaaGreatDoorW.PrintWords Go.Proofs.YtpdahkgandaabaaGreatDoorW.PrintLast Go.Proofs.YtpdahkgandaabaaGreatDoorW.PrintMore Go.Proofs.YtpdahkgandaabaaGreatDoor.PTopNames Go.Proofs.YtpdahkgandaabaaGreatDoor.Al
set_option linter.unusedVariables false
set_option linter.unusedSimpArgs false
set_option maxRecDepth 100000 in
theorem eqV26 (n : Nat) (w : World) (a b c d e f : Int) :
  (Op.equalIn (n + 2) 26 (.agg #[a, b, c]) (.agg #[d, e, f])).run Tryz.prog w = .ok (a == d && (b == e && c == f)) w := by
 obtain ⟨i, hi⟩ : ∃ i, Tryz.prog.info? 2 = some i := Option.isSome_iff_exists.1 (by kernel_rfl)
 have h := run_equalIn_array (w := w) (n + 1) #[a, b, c] #[d, e, f] Tryz.underlying26 hi
 have p0 : ∀ w, (part 2 #[a, b, c] 0).run Tryz.prog w = .ok (.int .i64 a) w := fun _ => by kernel_rfl
 have p1 : ∀ w, (part 2 #[a, b, c] 1).run Tryz.prog w = .ok (.int .i64 b) w := fun _ => by kernel_rfl
 have p2 : ∀ w, (part 2 #[a, b, c] 2).run Tryz.prog w = .ok (.int .i64 c) w := fun _ => by kernel_rfl
 have q0 : ∀ w, (part 2 #[d, e, f] 0).run Tryz.prog w = .ok (.int .i64 d) w := fun _ => by kernel_rfl
 have q1 : ∀ w, (part 2 #[d, e, f] 1).run Tryz.prog w = .ok (.int .i64 e) w := fun _ => by kernel_rfl
 have q2 : ∀ w, (part 2 #[d, e, f] 2).run Tryz.prog w = .ok (.int .i64 f) w := fun _ => by kernel_rfl
 have k : ∀ (x y : Int) (w : World), (Op.equalIn (n + 1) 2 (.int .i64 x) (.int .i64 y)).run Tryz.prog w = .ok (x == y) w := fun x y w => by
  simp [Op.equalIn, run_underlying Tryz.underlying2]
 rw [show List.range 3 = [0, 1, 2] from rfl, show Tryz.prog.cellsOf 2 = 1 by kernel_rfl] at h
 rw [h]
 simp only [Op.eqItems, Sem.run_bind, Nat.mul_one, p0, p1, p2, q0, q1, q2, k, Result.andThen_ok]
 cases h1 : (a == d) <;> cases h2 : (b == e) <;> cases h3 : (c == f) <;> simp [Result.andThen, p1, p2, q1, q2, k, h1, h2, h3]
attribute [local go_sem high] eqV26
set_option maxRecDepth 100000 in
set_option maxHeartbeats 4000000 in
theorem clamp1_tells (x m : Int) : ∃ r, Tells 152 #[x, m] (Ch.two r 0) := by
 refine ⟨mx (wrap64 (-(mx m 0))) (mn x (mx m 0)), fun w hG => ?_⟩
 have H := am (fix_Clamp.calls x m (mx (wrap64 (-(mx m 0))) (mn x (mx m 0))) w rfl)
 clear hG
 go_enter Tryz.func152, Tryz.ntmps152
 go_wp2_with fail
 refine H.out.mono ?_
 rintro e w1 ⟨rfl, hb⟩
 go_wp2_with fail
 go_ret2
 exact ⟨rfl, hb⟩
set_option maxRecDepth 100000 in
set_option maxHeartbeats 4000000 in
theorem clamp_tells (a0 a1 a2 c0 c1 c2 : Int) : ∃ r0 r1 r2, Tells 125 #[vec a0 a1 a2, vec c0 c1 c2] (vec r0 r1 r2) := by
 obtain ⟨y0, hd0⟩ := clamp1_tells a0 c0
 obtain ⟨y1, hd1⟩ := clamp1_tells a1 c1
 obtain ⟨y2, hd2⟩ := clamp1_tells a2 c2
 have h := each_tells a0 a1 a2 c0 c1 c2 152 #[] (fun _ => True) (fun _ _ _ _ => trivial) (fun _ _ => by kernel_rfl) y0 0 y1 0 y2 0 (hd0.p _) (hd1.p _) (hd2.p _)
 refine ⟨y0, y1, y2, fun w hG => ?_⟩
 have HE := am h
 clear h hd0 hd1 hd2
 unfold vec at HE
 have HG := am hG
 clear hG
 unfold vec
 go_enter Tryz.func125, Tryz.ntmps125
 go_upto_region 1 with fail
 obtain ⟨x2, x3, x4, hB⟩ := blocks3 w #[a0, a1, a2] #[c0, c1, c2] #[(), (), ()] 26 26 26
 generalize ((w.alloc (.cells #[a0, a1, a2] 26)).alloc (.cells #[c0, c1, c2] 26)).alloc (.cells #[(), (), ()] 26) = w1 at x2 x3 x4 hB ⊢
 obtain ⟨b2, h2⟩ := e_x (w.heap.size)
 obtain ⟨b3, h3⟩ := e_x (w.heap.size + 1)
 obtain ⟨b4, h4⟩ := e_x (w.heap.size + 1 + 1)
 have g4 : w.heap.size ≤ b4 := by omega
 rw [← h4, ← h3, ← h2]
 rw [← h4] at x4
 rw [← h3] at x3
 rw [← h2] at x2
 have H2 := am x2
 have H3 := am x3
 have H4 := am x4
 have HB := am hB
 clear x2 x3 x4 hB h2 h3 h4
 have y20 := b_l H2 0 rfl
 have y21 := b_l H2 1 rfl
 have y22 := b_l H2 2 rfl
 have y30 := b_l H3 0 rfl
 have y31 := b_l H3 1 rfl
 have y32 := b_l H3 2 rfl
 go_wp2_with fail
 refine (HE.out w1 (HG.out.below HB.out) trivial).mono ?_
 rintro e w2 ⟨rfl, hb⟩
 rw [show RR 0 0 0 y0 = y0 from rfl, show RR 0 0 0 y1 = y1 from rfl, show RR 0 0 0 y2 = y2 from rfl, show EE 0 0 0 = 0 from rfl]
 clear y20 y21 y22 y30 y31 y32
 go_upto_region 2 with fail
 have HY := am (blk_new w2 (.cells #[y0, y1, y2] 26))
 replace H4 := am (blk_alloc (blk_below H4.out hb) (.cells #[y0, y1, y2] 26))
 replace HB := am (below_alloc (below_step HB.out hb) (.cells #[y0, y1, y2] 26))
 clear hb
 generalize w2.alloc (.cells #[y0, y1, y2] 26) = w3 at HY H4 HB ⊢
 generalize w2.heap.size = b5 at HY ⊢
 have z50 := b_l HY 0 rfl
 have z51 := b_l HY 1 rfl
 have z52 := b_l HY 2 rfl
 have y40 := b_l H4 0 rfl
 have f40 := b_z H4 0
 have y41 := b_l H4 1 rfl
 have f41 := b_z H4 1
 have y42 := b_l H4 2 rfl
 have f42 := b_z H4 2
 go_wp2_with fail
 obtain ⟨q, qb⟩ := three_set rfl H4.out g4 HB.out (.int .i64 y0) (.int .i64 y1) (.int .i64 y2)
 exact bodyPost_ret (results_cell_row rfl _ _ b4 26 _ (0, 0) _ rfl q Tryz.underlying26 rfl (by kernel_rfl)) rfl ⟨rfl, qb⟩
set_option maxRecDepth 100000 in
set_option maxHeartbeats 4000000 in
theorem kept1_tells (a0 a1 a2 c0 c1 c2 : Int) : ∃ r0 r1 r2, Tells 102 #[vec a0 a1 a2, vec c0 c1 c2] (vec r0 r1 r2) := by
 obtain ⟨y0, y1, y2, h⟩ := clamp_tells a0 a1 a2 c0 c1 c2
 refine ⟨y0, y1, y2, fun w hG => ?_⟩
 have HE := am h
 clear h
 unfold vec at HE
 have HG := am hG
 clear hG
 unfold vec
 go_enter Tryz.func102, Tryz.ntmps102
 go_upto_region 1 with fail
 obtain ⟨x2, x3, x4, hB⟩ := blocks3 w #[a0, a1, a2] #[c0, c1, c2] #[(), (), ()] 26 26 26
 generalize ((w.alloc (.cells #[a0, a1, a2] 26)).alloc (.cells #[c0, c1, c2] 26)).alloc (.cells #[(), (), ()] 26) = w1 at x2 x3 x4 hB ⊢
 obtain ⟨b2, h2⟩ := e_x (w.heap.size)
 obtain ⟨b3, h3⟩ := e_x (w.heap.size + 1)
 obtain ⟨b4, h4⟩ := e_x (w.heap.size + 1 + 1)
 have g4 : w.heap.size ≤ b4 := by omega
 rw [← h4, ← h3, ← h2]
 rw [← h4] at x4
 rw [← h3] at x3
 rw [← h2] at x2
 have H2 := am x2
 have H3 := am x3
 have H4 := am x4
 have HB := am hB
 clear x2 x3 x4 hB h2 h3 h4
 have y20 := b_l H2 0 rfl
 have y21 := b_l H2 1 rfl
 have y22 := b_l H2 2 rfl
 have y30 := b_l H3 0 rfl
 have y31 := b_l H3 1 rfl
 have y32 := b_l H3 2 rfl
 go_wp2_with fail
 refine (HE.out w1 (HG.out.below HB.out)).mono ?_
 rintro e w2 ⟨rfl, hb⟩
 clear y20 y21 y22 y30 y31 y32
 replace H2 := b_b H2 hb
 replace H3 := b_b H3 hb
 replace H4 := b_b H4 hb
 replace HB := b_s HB hb
 clear hb
 have y40 := b_l H4 0 rfl
 have f40 := b_z H4 0
 have y41 := b_l H4 1 rfl
 have f41 := b_z H4 1
 have y42 := b_l H4 2 rfl
 have f42 := b_z H4 2
 go_wp2_with fail
 obtain ⟨q, qb⟩ := three_set rfl H4.out g4 HB.out (.int .i64 y0) (.int .i64 y1) (.int .i64 y2)
 exact bodyPost_ret (results_cell_row rfl _ _ b4 26 _ (0, 0) _ rfl q Tryz.underlying26 rfl (by kernel_rfl)) rfl ⟨rfl, qb⟩
set_option maxRecDepth 100000 in
set_option maxHeartbeats 4000000 in
theorem vfits_tells (a0 a1 a2 : Int) : ∃ k, Tells 94 #[vec a0 a1 a2] (.bool k) := by
 obtain ⟨y0, y1, y2, h⟩ := clamp_tells a0 a1 a2 288230376151711744 288230376151711744 288230376151711744
 refine ⟨(a0 == y0 && (a1 == y1 && a2 == y2)), fun w hG => ?_⟩
 have HE := am h
 have HG := am hG
 clear h hG
 unfold vec at HE ⊢
 go_enter Tryz.func94, Tryz.ntmps94
 go_upto_region 1 with fail
 have HX := am (blk_new w (.cells #[a0, a1, a2] 26))
 have HB := am (below_alloc (Below.refl w.heap.size w) (.cells #[a0, a1, a2] 26))
 generalize w.alloc (.cells #[a0, a1, a2] 26) = w1 at HX HB ⊢
 generalize w.heap.size = b1 at HX ⊢
 refine s_t 6 (fun w' => w'.heap[b1]? = some (.cells #[a0, a1, a2] 26 (0, 0))) HX.out (fun hHeld => ?_)
 replace HX := b_d HX
 replace HB := am (below_drew HB.out)
 generalize w1.drew = wd at HX HB hHeld ⊢
 refine t_a 0 3 6 1 hHeld ?_ (hv := by rintro w' s0; have x0 := bcl s0 0 rfl; have x1 := bcl s0 1 rfl; have x2 := bcl s0 2 rfl; go_simp; with_reducible rfl)
 refine t_a 1 4 6 3 hHeld ?_ (hv := by rintro w' s0; have x0 := bcl s0 0 rfl; have x1 := bcl s0 1 rfl; have x2 := bcl s0 2 rfl; go_simp; with_reducible rfl)
 refine p_u 2 5 6 7 ?_
 refine o_n 3 6 6 15 fun K hK => ?_
 refine g_s Tryz.func125 #[.agg #[a0, a1, a2], .agg #[.int .i64 288230376151711744, .int .i64 288230376151711744, .int .i64 288230376151711744]] ?_
 refine (HE.out wd (HG.out.below HB.out)).mono ?_
 rintro e we ⟨rfl, hb⟩
 replace HX := b_b HX hb
 replace HB := b_s HB hb
 clear hb hHeld
 refine ⟨_, rfl, ?_⟩
 refine hK.out _ _ HX.out (fun hHeld => ?_)
 clear hK K
 refine n_o 6 ?_
 refine p_u 4 7 6 31 ?_
 refine p_u 5 2 6 63 ?_
 refine d_n ?_
 go_wp2_with fail
 go_ret
 exact ⟨rfl, HB.out⟩
set_option maxRecDepth 100000 in
set_option maxHeartbeats 4000000 in
theorem vadd_tells (a0 a1 a2 c0 c1 c2 : Int) : ∃ r0 r1 r2 e, Tells 96 #[vec a0 a1 a2, vec c0 c1 c2] (.tuple #[vec r0 r1 r2, .int .i64 e]) := by
 obtain ⟨ka, ha⟩ := vfits_tells a0 a1 a2
 obtain ⟨kc, hc⟩ := vfits_tells c0 c1 c2
 obtain ⟨y0, e0, hd0⟩ := add_tells a0 c0
 obtain ⟨y1, e1, hd1⟩ := add_tells a1 c1
 obtain ⟨y2, e2, hd2⟩ := add_tells a2 c2
 have HA := am ha
 have HC := am hc
 have HE := am (each_tells a0 a1 a2 c0 c1 c2 105 #[] (fun _ => True) (fun _ _ _ _ => trivial) (fun _ _ => by kernel_rfl) y0 e0 y1 e1 y2 e2 (hd0.p _) (hd1.p _) (hd2.p _))
 clear ha hc hd0 hd1 hd2
 unfold vec at HA HC HE
 generalize RR e0 e1 e2 y0 = z0 at HE
 generalize RR e0 e1 e2 y1 = z1 at HE
 generalize RR e0 e1 e2 y2 = z2 at HE
 generalize EE e0 e1 e2 = ze at HE
 cases ka with
 | false =>
  refine ⟨0, 0, 0, 1, fun w hG => ?_⟩
  have HG := am hG
  clear hG
  unfold vec
  go_enter Tryz.func96, Tryz.ntmps96
  go_upto_region 1 with fail
  obtain ⟨x2, x3, x4, hB⟩ := blocks3 w #[a0, a1, a2] #[c0, c1, c2] #[(), (), ()] 26 26 26
  generalize ((w.alloc (.cells #[a0, a1, a2] 26)).alloc (.cells #[c0, c1, c2] 26)).alloc (.cells #[(), (), ()] 26) = w1 at x2 x3 x4 hB ⊢
  obtain ⟨b2, h2⟩ := e_x (w.heap.size)
  obtain ⟨b3, h3⟩ := e_x (w.heap.size + 1)
  obtain ⟨b4, h4⟩ := e_x (w.heap.size + 1 + 1)
  have g4 : w.heap.size ≤ b4 := by omega
  rw [← h4, ← h3, ← h2]
  rw [← h4] at x4
  rw [← h3] at x3
  rw [← h2] at x2
  have H2 := am x2
  have H3 := am x3
  have H4 := am x4
  have HB := am hB
  clear x2 x3 x4 hB h2 h3 h4
  have y20 := b_l H2 0 rfl
  have y21 := b_l H2 1 rfl
  have y22 := b_l H2 2 rfl
  have y30 := b_l H3 0 rfl
  have y31 := b_l H3 1 rfl
  have y32 := b_l H3 2 rfl
  go_wp2_with fail
  refine (HA.out w1 (HG.out.below HB.out)).mono ?_
  rintro e w2 ⟨rfl, hb⟩
  clear y20 y21 y22 y30 y31 y32
  replace H2 := b_b H2 hb
  replace H3 := b_b H3 hb
  replace H4 := b_b H4 hb
  replace HB := b_s HB hb
  clear hb
  have y20 := b_l H2 0 rfl
  have y21 := b_l H2 1 rfl
  have y22 := b_l H2 2 rfl
  have y30 := b_l H3 0 rfl
  have y31 := b_l H3 1 rfl
  have y32 := b_l H3 2 rfl
  have y40 := b_l H4 0 rfl
  have f40 := b_z H4 0
  have y41 := b_l H4 1 rfl
  have f41 := b_z H4 1
  have y42 := b_l H4 2 rfl
  have f42 := b_z H4 2
  go_wp2_with fail
  obtain ⟨q, qb⟩ := three_set rfl H4.out g4 HB.out (.int .i64 0) (.int .i64 0) (.int .i64 0)
  exact bodyPost_ret (results_ct rfl _ _ b4 26 _ (0, 0) _ rfl q Tryz.underlying26 rfl (by kernel_rfl)) rfl ⟨rfl, qb⟩
 | true =>
  cases kc with
  | false =>
   refine ⟨0, 0, 0, 1, fun w hG => ?_⟩
   have HG := am hG
   clear hG
   unfold vec
   go_enter Tryz.func96, Tryz.ntmps96
   go_upto_region 1 with fail
   obtain ⟨x2, x3, x4, hB⟩ := blocks3 w #[a0, a1, a2] #[c0, c1, c2] #[(), (), ()] 26 26 26
   generalize ((w.alloc (.cells #[a0, a1, a2] 26)).alloc (.cells #[c0, c1, c2] 26)).alloc (.cells #[(), (), ()] 26) = w1 at x2 x3 x4 hB ⊢
   obtain ⟨b2, h2⟩ := e_x (w.heap.size)
   obtain ⟨b3, h3⟩ := e_x (w.heap.size + 1)
   obtain ⟨b4, h4⟩ := e_x (w.heap.size + 1 + 1)
   have g4 : w.heap.size ≤ b4 := by omega
   rw [← h4, ← h3, ← h2]
   rw [← h4] at x4
   rw [← h3] at x3
   rw [← h2] at x2
   have H2 := am x2
   have H3 := am x3
   have H4 := am x4
   have HB := am hB
   clear x2 x3 x4 hB h2 h3 h4
   have y20 := b_l H2 0 rfl
   have y21 := b_l H2 1 rfl
   have y22 := b_l H2 2 rfl
   have y30 := b_l H3 0 rfl
   have y31 := b_l H3 1 rfl
   have y32 := b_l H3 2 rfl
   go_wp2_with fail
   refine (HA.out w1 (HG.out.below HB.out)).mono ?_
   rintro e w2 ⟨rfl, hb⟩
   clear y20 y21 y22 y30 y31 y32
   replace H2 := b_b H2 hb
   replace H3 := b_b H3 hb
   replace H4 := b_b H4 hb
   replace HB := b_s HB hb
   clear hb
   have y20 := b_l H2 0 rfl
   have y21 := b_l H2 1 rfl
   have y22 := b_l H2 2 rfl
   have y30 := b_l H3 0 rfl
   have y31 := b_l H3 1 rfl
   have y32 := b_l H3 2 rfl
   have y40 := b_l H4 0 rfl
   have f40 := b_z H4 0
   have y41 := b_l H4 1 rfl
   have f41 := b_z H4 1
   have y42 := b_l H4 2 rfl
   have f42 := b_z H4 2
   go_wp2_with fail
   refine (HC.out w2 (HG.out.below HB.out)).mono ?_
   rintro e w3 ⟨rfl, hb⟩
   clear y20 y21 y22 y30 y31 y32 y40 y41 y42 f40 f41 f42
   replace H2 := b_b H2 hb
   replace H3 := b_b H3 hb
   replace H4 := b_b H4 hb
   replace HB := b_s HB hb
   clear hb
   have y20 := b_l H2 0 rfl
   have y21 := b_l H2 1 rfl
   have y22 := b_l H2 2 rfl
   have y30 := b_l H3 0 rfl
   have y31 := b_l H3 1 rfl
   have y32 := b_l H3 2 rfl
   have y40 := b_l H4 0 rfl
   have f40 := b_z H4 0
   have y41 := b_l H4 1 rfl
   have f41 := b_z H4 1
   have y42 := b_l H4 2 rfl
   have f42 := b_z H4 2
   go_wp2_with fail
   obtain ⟨q, qb⟩ := three_set rfl H4.out g4 HB.out (.int .i64 0) (.int .i64 0) (.int .i64 0)
   exact bodyPost_ret (results_ct rfl _ _ b4 26 _ (0, 0) _ rfl q Tryz.underlying26 rfl (by kernel_rfl)) rfl ⟨rfl, qb⟩
  | true =>
   refine ⟨z0, z1, z2, ze, fun w hG => ?_⟩
   have HG := am hG
   clear hG
   unfold vec
   go_enter Tryz.func96, Tryz.ntmps96
   go_upto_region 1 with fail
   obtain ⟨x2, x3, x4, hB⟩ := blocks3 w #[a0, a1, a2] #[c0, c1, c2] #[(), (), ()] 26 26 26
   generalize ((w.alloc (.cells #[a0, a1, a2] 26)).alloc (.cells #[c0, c1, c2] 26)).alloc (.cells #[(), (), ()] 26) = w1 at x2 x3 x4 hB ⊢
   obtain ⟨b2, h2⟩ := e_x (w.heap.size)
   obtain ⟨b3, h3⟩ := e_x (w.heap.size + 1)
   obtain ⟨b4, h4⟩ := e_x (w.heap.size + 1 + 1)
   have g4 : w.heap.size ≤ b4 := by omega
   rw [← h4, ← h3, ← h2]
   rw [← h4] at x4
   rw [← h3] at x3
   rw [← h2] at x2
   have H2 := am x2
   have H3 := am x3
   have H4 := am x4
   have HB := am hB
   clear x2 x3 x4 hB h2 h3 h4
   have y20 := b_l H2 0 rfl
   have y21 := b_l H2 1 rfl
   have y22 := b_l H2 2 rfl
   have y30 := b_l H3 0 rfl
   have y31 := b_l H3 1 rfl
   have y32 := b_l H3 2 rfl
   go_wp2_with fail
   refine (HA.out w1 (HG.out.below HB.out)).mono ?_
   rintro e w2 ⟨rfl, hb⟩
   clear y20 y21 y22 y30 y31 y32
   replace H2 := b_b H2 hb
   replace H3 := b_b H3 hb
   replace H4 := b_b H4 hb
   replace HB := b_s HB hb
   clear hb
   have y20 := b_l H2 0 rfl
   have y21 := b_l H2 1 rfl
   have y22 := b_l H2 2 rfl
   have y30 := b_l H3 0 rfl
   have y31 := b_l H3 1 rfl
   have y32 := b_l H3 2 rfl
   have y40 := b_l H4 0 rfl
   have f40 := b_z H4 0
   have y41 := b_l H4 1 rfl
   have f41 := b_z H4 1
   have y42 := b_l H4 2 rfl
   have f42 := b_z H4 2
   go_wp2_with fail
   refine (HC.out w2 (HG.out.below HB.out)).mono ?_
   rintro e w3 ⟨rfl, hb⟩
   clear y20 y21 y22 y30 y31 y32 y40 y41 y42 f40 f41 f42
   replace H2 := b_b H2 hb
   replace H3 := b_b H3 hb
   replace H4 := b_b H4 hb
   replace HB := b_s HB hb
   clear hb
   have y20 := b_l H2 0 rfl
   have y21 := b_l H2 1 rfl
   have y22 := b_l H2 2 rfl
   have y30 := b_l H3 0 rfl
   have y31 := b_l H3 1 rfl
   have y32 := b_l H3 2 rfl
   have y40 := b_l H4 0 rfl
   have f40 := b_z H4 0
   have y41 := b_l H4 1 rfl
   have f41 := b_z H4 1
   have y42 := b_l H4 2 rfl
   have f42 := b_z H4 2
   go_wp2_with fail
   refine (HE.out w3 (HG.out.below HB.out) trivial).mono ?_
   rintro e w4 ⟨rfl, hb⟩
   clear y20 y21 y22 y30 y31 y32 y40 y41 y42 f40 f41 f42
   replace H2 := b_b H2 hb
   replace H3 := b_b H3 hb
   replace H4 := b_b H4 hb
   replace HB := b_s HB hb
   clear hb
   have y40 := b_l H4 0 rfl
   have f40 := b_z H4 0
   have y41 := b_l H4 1 rfl
   have f41 := b_z H4 1
   have y42 := b_l H4 2 rfl
   have f42 := b_z H4 2
   go_wp2_with fail
   obtain ⟨q, qb⟩ := three_set rfl H4.out g4 HB.out (.int .i64 z0) (.int .i64 z1) (.int .i64 z2)
   exact bodyPost_ret (results_ct rfl _ _ b4 26 _ (0, 0) _ rfl q Tryz.underlying26 rfl (by kernel_rfl)) rfl ⟨rfl, qb⟩
set_option maxRecDepth 100000 in
set_option maxHeartbeats 4000000 in
theorem scale1_tells (b : Nat) (x z k r e : Int) (hm : Tells 116 #[x, k] (Ch.two r e)) : TellsP (fun w => w.heap[b]? = some (.cells #[k] 2 (0, 0))) 145 #[x, z, .pointer (some ⟨b, 0, none⟩)] (Ch.two r e) := by
 intro w hG hp
 have H := am (hm w hG)
 have x0 := bcl hp 0 rfl
 clear hm hG hp
 unfold Ch.two at H ⊢
 go_enter Tryz.func145, Tryz.ntmps145
 go_wp2_with fail
 refine H.out.mono ?_
 rintro e w1 ⟨rfl, hb⟩
 go_wp2_with fail
 go_ret2
 exact ⟨rfl, hb⟩
set_option maxRecDepth 100000 in
set_option maxHeartbeats 4000000 in
theorem vscale_tells (a0 a1 a2 k : Int) : ∃ r0 r1 r2 e, Tells 112 #[vec a0 a1 a2, k] (.tuple #[vec r0 r1 r2, .int .i64 e]) := by
 obtain ⟨ka, ha⟩ := vfits_tells a0 a1 a2
 obtain ⟨y0, e0, hd0⟩ := fmul_tells a0 k
 obtain ⟨y1, e1, hd1⟩ := fmul_tells a1 k
 obtain ⟨y2, e2, hd2⟩ := fmul_tells a2 k
 have HA := am ha
 have HE := am (fun b => each_tells a0 a1 a2 a0 a1 a2 145 #[.pointer (some ⟨b, 0, none⟩)] (fun w => w.heap[b]? = some (.cells #[k] 2 (0, 0))) (fun _ _ h hb => blk_below h hb) (fun _ _ => by kernel_rfl) y0 e0 y1 e1 y2 e2 (scale1_tells b a0 a0 k y0 e0 hd0) (scale1_tells b a1 a1 k y1 e1 hd1) (scale1_tells b a2 a2 k y2 e2 hd2))
 clear ha hd0 hd1 hd2
 unfold vec at HA HE
 generalize RR e0 e1 e2 y0 = z0 at HE
 generalize RR e0 e1 e2 y1 = z1 at HE
 generalize RR e0 e1 e2 y2 = z2 at HE
 generalize EE e0 e1 e2 = ze at HE
 cases ka with
 | false =>
  refine ⟨0, 0, 0, 1, fun w hG => ?_⟩
  have HG := am hG
  clear hG
  unfold vec
  go_enter Tryz.func112, Tryz.ntmps112
  go_upto_region 1 with fail
  obtain ⟨x2, x3, x4, hB⟩ := blocks3 w #[a0, a1, a2] #[k] #[(), (), ()] 26 2 26
  generalize ((w.alloc (.cells #[a0, a1, a2] 26)).alloc (.cells #[k] 2)).alloc (.cells #[(), (), ()] 26) = w1 at x2 x3 x4 hB ⊢
  obtain ⟨b2, h2⟩ := e_x (w.heap.size)
  obtain ⟨b3, h3⟩ := e_x (w.heap.size + 1)
  obtain ⟨b4, h4⟩ := e_x (w.heap.size + 1 + 1)
  have g4 : w.heap.size ≤ b4 := by omega
  rw [← h4, ← h3, ← h2]
  rw [← h4] at x4
  rw [← h3] at x3
  rw [← h2] at x2
  have H2 := am x2
  have H3 := am x3
  have H4 := am x4
  have HB := am hB
  clear x2 x3 x4 hB h2 h3 h4
  have y20 := b_l H2 0 rfl
  have y21 := b_l H2 1 rfl
  have y22 := b_l H2 2 rfl
  have y30 := b_l H3 0 rfl
  go_wp2_with fail
  refine (HA.out w1 (HG.out.below HB.out)).mono ?_
  rintro e w2 ⟨rfl, hb⟩
  clear y20 y21 y22 y30
  replace H2 := b_b H2 hb
  replace H3 := b_b H3 hb
  replace H4 := b_b H4 hb
  replace HB := b_s HB hb
  clear hb
  have y20 := b_l H2 0 rfl
  have y21 := b_l H2 1 rfl
  have y22 := b_l H2 2 rfl
  have y30 := b_l H3 0 rfl
  have y40 := b_l H4 0 rfl
  have f40 := b_z H4 0
  have y41 := b_l H4 1 rfl
  have f41 := b_z H4 1
  have y42 := b_l H4 2 rfl
  have f42 := b_z H4 2
  have hmk := mk_func
  go_wp2_with fail
  obtain ⟨q, qb⟩ := three_set rfl H4.out g4 HB.out (.int .i64 0) (.int .i64 0) (.int .i64 0)
  exact bodyPost_ret (results_ct rfl _ _ b4 26 _ (0, 0) _ rfl q Tryz.underlying26 rfl (by kernel_rfl)) rfl ⟨rfl, qb⟩
 | true =>
  cases hk : fits k with
  | false =>
   have HF := am hk
   clear hk
   refine ⟨0, 0, 0, 1, fun w hG => ?_⟩
   have HG := am hG
   clear hG
   unfold vec
   go_enter Tryz.func112, Tryz.ntmps112
   go_upto_region 1 with fail
   obtain ⟨x2, x3, x4, hB⟩ := blocks3 w #[a0, a1, a2] #[k] #[(), (), ()] 26 2 26
   generalize ((w.alloc (.cells #[a0, a1, a2] 26)).alloc (.cells #[k] 2)).alloc (.cells #[(), (), ()] 26) = w1 at x2 x3 x4 hB ⊢
   obtain ⟨b2, h2⟩ := e_x (w.heap.size)
   obtain ⟨b3, h3⟩ := e_x (w.heap.size + 1)
   obtain ⟨b4, h4⟩ := e_x (w.heap.size + 1 + 1)
   have g4 : w.heap.size ≤ b4 := by omega
   rw [← h4, ← h3, ← h2]
   rw [← h4] at x4
   rw [← h3] at x3
   rw [← h2] at x2
   have H2 := am x2
   have H3 := am x3
   have H4 := am x4
   have HB := am hB
   clear x2 x3 x4 hB h2 h3 h4
   have y20 := b_l H2 0 rfl
   have y21 := b_l H2 1 rfl
   have y22 := b_l H2 2 rfl
   have y30 := b_l H3 0 rfl
   go_wp2_with fail
   refine (HA.out w1 (HG.out.below HB.out)).mono ?_
   rintro e w2 ⟨rfl, hb⟩
   clear y20 y21 y22 y30
   replace H2 := b_b H2 hb
   replace H3 := b_b H3 hb
   replace H4 := b_b H4 hb
   replace HB := b_s HB hb
   clear hb
   have y20 := b_l H2 0 rfl
   have y21 := b_l H2 1 rfl
   have y22 := b_l H2 2 rfl
   have y30 := b_l H3 0 rfl
   have y40 := b_l H4 0 rfl
   have f40 := b_z H4 0
   have y41 := b_l H4 1 rfl
   have f41 := b_z H4 1
   have y42 := b_l H4 2 rfl
   have f42 := b_z H4 2
   have hmk := mk_func
   go_wp2_with fail
   refine (fits_any w2 k).mono ?_
   rintro e w3 ⟨rfl, rfl⟩
   rw [HF.out]
   go_wp2_with fail
   obtain ⟨q, qb⟩ := three_set rfl H4.out g4 HB.out (.int .i64 0) (.int .i64 0) (.int .i64 0)
   exact bodyPost_ret (results_ct rfl _ _ b4 26 _ (0, 0) _ rfl q Tryz.underlying26 rfl (by kernel_rfl)) rfl ⟨rfl, qb⟩
  | true =>
   have HF := am hk
   clear hk
   refine ⟨z0, z1, z2, ze, fun w hG => ?_⟩
   have HG := am hG
   clear hG
   unfold vec
   go_enter Tryz.func112, Tryz.ntmps112
   go_upto_region 1 with fail
   obtain ⟨x2, x3, x4, hB⟩ := blocks3 w #[a0, a1, a2] #[k] #[(), (), ()] 26 2 26
   generalize ((w.alloc (.cells #[a0, a1, a2] 26)).alloc (.cells #[k] 2)).alloc (.cells #[(), (), ()] 26) = w1 at x2 x3 x4 hB ⊢
   obtain ⟨b2, h2⟩ := e_x (w.heap.size)
   obtain ⟨b3, h3⟩ := e_x (w.heap.size + 1)
   obtain ⟨b4, h4⟩ := e_x (w.heap.size + 1 + 1)
   have g4 : w.heap.size ≤ b4 := by omega
   rw [← h4, ← h3, ← h2]
   rw [← h4] at x4
   rw [← h3] at x3
   rw [← h2] at x2
   have H2 := am x2
   have H3 := am x3
   have H4 := am x4
   have HB := am hB
   clear x2 x3 x4 hB h2 h3 h4
   have y20 := b_l H2 0 rfl
   have y21 := b_l H2 1 rfl
   have y22 := b_l H2 2 rfl
   have y30 := b_l H3 0 rfl
   go_wp2_with fail
   refine (HA.out w1 (HG.out.below HB.out)).mono ?_
   rintro e w2 ⟨rfl, hb⟩
   clear y20 y21 y22 y30
   replace H2 := b_b H2 hb
   replace H3 := b_b H3 hb
   replace H4 := b_b H4 hb
   replace HB := b_s HB hb
   clear hb
   have y20 := b_l H2 0 rfl
   have y21 := b_l H2 1 rfl
   have y22 := b_l H2 2 rfl
   have y30 := b_l H3 0 rfl
   have y40 := b_l H4 0 rfl
   have f40 := b_z H4 0
   have y41 := b_l H4 1 rfl
   have f41 := b_z H4 1
   have y42 := b_l H4 2 rfl
   have f42 := b_z H4 2
   have hmk := mk_func
   go_wp2_with fail
   refine (fits_any w2 k).mono ?_
   rintro e w3 ⟨rfl, rfl⟩
   rw [HF.out]
   go_wp2_with fail
   refine (HE.out b3 _ (HG.out.below HB.out) H3.out).mono ?_
   rintro e w4 ⟨rfl, hb⟩
   clear hmk
   clear y20 y21 y22 y30 y40 y41 y42 f40 f41 f42
   replace H2 := b_b H2 hb
   replace H3 := b_b H3 hb
   replace H4 := b_b H4 hb
   replace HB := b_s HB hb
   clear hb
   have y40 := b_l H4 0 rfl
   have f40 := b_z H4 0
   have y41 := b_l H4 1 rfl
   have f41 := b_z H4 1
   have y42 := b_l H4 2 rfl
   have f42 := b_z H4 2
   go_wp2_with fail
   obtain ⟨q, qb⟩ := three_set rfl H4.out g4 HB.out (.int .i64 z0) (.int .i64 z1) (.int .i64 z2)
   exact bodyPost_ret (results_ct rfl _ _ b4 26 _ (0, 0) _ rfl q Tryz.underlying26 rfl (by kernel_rfl)) rfl ⟨rfl, qb⟩
end Go.Proofs.YtpdahkgandaabaaGreatDoor.Ch
