/- A part of the proof of the law TopNone of the top, where the package's tables hold what their initialisers lay. -/
import Derived.Test.YtpdahkgandaabaaGreatDoorS01
import Derived.Test.YtpdahkgandaabaaGreatDoorS04
import Derived.Test.YtpdahkgandaabaaGreatDoorS06
namespace Go.Proofs.YtpdahkgandaabaaGreatDoor.Ch
open Go.RowKit Go.Proofs.YtpdahkgandaabaaGreatDoorW.PrintWords Go.Proofs.YtpdahkgandaabaaGreatDoorW.PrintLast Go.Proofs.YtpdahkgandaabaaGreatDoorW.PrintMore Go.Proofs.YtpdahkgandaabaaGreatDoor.PTopNames Go.Proofs.YtpdahkgandaabaaGreatDoor.Al
set_option linter.unusedVariables false
set_option linter.unusedSimpArgs false
section
variable {P : Program} {ops : Array Oper} {Q : Exit → Act → World → Prop}
theorem goesv_ {oi : Oper} {N : Option Tmp} {a : Act} {w : World} {K : Act → World → Prop} {f : FuncId} {t : Tmp} {caps : Array Value} {os : Array Operand} {ts : Array TypeId} (hc : ∀ args w, (callFunc f args).run P w = .ok (.enter f args) w) (args : Array Value)
  (hw : Region.wanted oi (yielded ops a.tmps) = true) (hN : oi.dst = N) (hop : oi.op = .call { callee := .value (.tmp t), args := os, argTypes := ts }) (ht : a.tmps[t]?.getD undef = .func (.func f) #[] caps) (hargs : os.map a.eval = args)
  (h : Calls P f (args ++ caps) w fun e w' => ∃ v, e = .returned v ∧ K (a.put N v) w') : if Region.wanted oi (yielded ops a.tmps) = true then Oper.wp P oi a w K Q else K (a.put N undef) w := by
 refine call_ f (args ++ caps) hw hN ?_ h
 have he := hc (args ++ caps) w
 unfold execOp
 simp [hop, resolve, Deferred.ofValue, invoke, Act.eval, hargs, ht, he]
end
def vec (a b c : Int) : Value := .agg #[.int .i64 a, .int .i64 b, .int .i64 c]
def OV (x0 x1 x2 : Int) (k : Int) : Array Value := #[.int .i64 (if 1 ≤ k then x0 else 0), .int .i64 (if 2 ≤ k then x1 else 0), .int .i64 (if 3 ≤ k then x2 else 0)]
def TellsP (P : World → Prop) (F : Nat) (args : Array Value) (v : Value) : Prop := ∀ w, G w → P w → Calls Tryz.prog F args w fun e w' => e = .returned v ∧ Below w.heap.size w w'
theorem Tells.p {F : Nat} {args : Array Value} {v : Value} (h : Tells F args v) (P : World → Prop) : TellsP P F args v := fun w hG _ => h w hG
theorem three_set {w0 w : World} {b : Nat} {C : Array Value} (hC : C.size = 3) (hX : w.heap[b]? = some (.cells C 26 (0, 0))) (g : w0.heap.size ≤ b) (hB : Below w0.heap.size w0 w) (x y z : Value) :
  (((w.setCell ⟨b, 0, none⟩ x).setCell ⟨b, 1, none⟩ y).setCell ⟨b, 2, none⟩ z).heap[b]? = some (.cells #[x, y, z] 26 (0, 0)) ∧ Below w0.heap.size w0 (((w.setCell ⟨b, 0, none⟩ x).setCell ⟨b, 1, none⟩ y).setCell ⟨b, 2, none⟩ z) := by
 obtain ⟨c0, c1, c2, rfl⟩ : ∃ c0 c1 c2, C = #[c0, c1, c2] := by
  obtain ⟨l⟩ := C
  match l, hC with
  | [c0, c1, c2], _ => exact ⟨c0, c1, c2, rfl⟩
 exact ⟨blk_set (blk_set (blk_set hX 0 x) 1 y) 2 z, ((hB.setCell (p := ⟨b, 0, none⟩) g x).setCell (p := ⟨b, 1, none⟩) g y).setCell (p := ⟨b, 2, none⟩) g z⟩
theorem blocks4 (w : World) (x y z u : Array Value) (t s r q : TypeId) : ((((w.alloc (.cells x t)).alloc (.cells y s)).alloc (.cells z r)).alloc (.cells u q)).heap[w.heap.size]? = some (.cells x t (0, 0)) ∧ ((((w.alloc (.cells x t)).alloc (.cells y s)).alloc (.cells z r)).alloc (.cells u q)).heap[w.heap.size + 1]? = some (.cells y s (0, 0)) ∧
  ((((w.alloc (.cells x t)).alloc (.cells y s)).alloc (.cells z r)).alloc (.cells u q)).heap[w.heap.size + 1 + 1]? = some (.cells z r (0, 0)) ∧ ((((w.alloc (.cells x t)).alloc (.cells y s)).alloc (.cells z r)).alloc (.cells u q)).heap[w.heap.size + 1 + 1 + 1]? = some (.cells u q (0, 0)) ∧
  Below w.heap.size w ((((w.alloc (.cells x t)).alloc (.cells y s)).alloc (.cells z r)).alloc (.cells u q)) := by
 obtain ⟨h1, h2, h3, h4⟩ := blocks3 w x y z t s r
 have h := blk_new (((w.alloc (.cells x t)).alloc (.cells y s)).alloc (.cells z r)) (.cells u q)
 rw [size1, size1, size1] at h
 exact ⟨blk_alloc h1 _, blk_alloc h2 _, blk_alloc h3 _, h, below_alloc h4 _⟩
def RR (e0 e1 e2 y : Int) : Int := if e0 = 0 ∧ e1 = 0 ∧ e2 = 0 then y else 0
def EE (e0 e1 e2 : Int) : Int := if e0 = 0 then (if e1 = 0 then e2 else e1) else e0
set_option maxRecDepth 100000 in
set_option maxHeartbeats 4000000 in
theorem each_tells (a0 a1 a2 b0 b1 b2 : Int) (d : Nat) (caps : Array Value) (P : World → Prop) (hP : ∀ w w', P w → Below w.heap.size w w' → P w') (hc : ∀ args w, (callFunc d args).run Tryz.prog w = .ok (.enter d args) w) (y0 e0 y1 e1 y2 e2 : Int)
  (hd0 : TellsP P d (#[.int .i64 a0, .int .i64 b0] ++ caps) (Ch.two y0 e0)) (hd1 : TellsP P d (#[.int .i64 a1, .int .i64 b1] ++ caps) (Ch.two y1 e1)) (hd2 : TellsP P d (#[.int .i64 a2, .int .i64 b2] ++ caps) (Ch.two y2 e2)) :
  TellsP P 129 #[vec a0 a1 a2, vec b0 b1 b2, .func (.func d) #[] caps] (.tuple #[vec (RR e0 e1 e2 y0) (RR e0 e1 e2 y1) (RR e0 e1 e2 y2), .int .i64 (EE e0 e1 e2)]) := by
 intro w hG hp
 have HD0 := am hd0
 have HD1 := am hd1
 have HD2 := am hd2
 clear hd0 hd1 hd2
 unfold Ch.two at HD0 HD1 HD2
 by_cases h0 : e0 = 0
 ·
  subst h0
  by_cases h1 : e1 = 0
  ·
   subst h1
   by_cases h2 : e2 = 0
   ·
    subst h2
    rw [show RR 0 0 0 y0 = y0 from rfl, show RR 0 0 0 y1 = y1 from rfl, show RR 0 0 0 y2 = y2 from rfl, show EE 0 0 0 = 0 from rfl]
    have HG := am hG
    have HP := am hp
    clear hG hp
    unfold vec
    go_enter Tryz.func129, Tryz.ntmps129
    go_upto_region 2 with fail
    obtain ⟨x3, x4, x6, x8, hB⟩ := blocks4 w #[.int .i64 a0, .int .i64 a1, .int .i64 a2] #[.int .i64 b0, .int .i64 b1, .int .i64 b2] #[.int .i64 0, .int .i64 0, .int .i64 0] #[.int .i64 0, .int .i64 0, .int .i64 0] 26 26 26 26
    generalize (((w.alloc (.cells #[.int .i64 a0, .int .i64 a1, .int .i64 a2] 26)).alloc (.cells #[.int .i64 b0, .int .i64 b1, .int .i64 b2] 26)).alloc (.cells #[.int .i64 0, .int .i64 0, .int .i64 0] 26)).alloc (.cells #[.int .i64 0, .int .i64 0, .int .i64 0] 26) = w1 at x3 x4 x6 x8 hB ⊢
    obtain ⟨p3, h3⟩ : ∃ b, b = w.heap.size := ⟨_, rfl⟩
    obtain ⟨p4, h4⟩ : ∃ b, b = w.heap.size + 1 := ⟨_, rfl⟩
    obtain ⟨p6, h6⟩ : ∃ b, b = w.heap.size + 1 + 1 := ⟨_, rfl⟩
    obtain ⟨p8, h8⟩ : ∃ b, b = w.heap.size + 1 + 1 + 1 := ⟨_, rfl⟩
    have g6 : w.heap.size ≤ p6 := by omega
    have g8 : w.heap.size ≤ p8 := by omega
    have n38 : p3 ≠ p8 := by omega
    have n48 : p4 ≠ p8 := by omega
    have n68 : p6 ≠ p8 := by omega
    rw [← h8, ← h6, ← h4, ← h3]
    rw [← h8] at x8
    rw [← h6] at x6
    rw [← h4] at x4
    rw [← h3] at x3
    have H3 := am x3
    have H4 := am x4
    have H6 := am x6
    have H8 := am (show w1.heap[p8]? = some (.cells (OV y0 y1 y2 0) 26 (0, 0)) from x8)
    have HB := am hB
    clear x3 x4 x6 x8 hB h3 h4 h6 h8
    go_wp2_with fail
    go_loopw [12] (fun v12 wr => ∃ k : Int, (0 ≤ k ∧ k ≤ 3) ∧ v12 = .int .i64 k ∧ Aside0 (wr.heap[p3]? = some (.cells #[.int .i64 a0, .int .i64 a1, .int .i64 a2] 26 (0, 0))) ∧ Aside0 (wr.heap[p4]? = some (.cells #[.int .i64 b0, .int .i64 b1, .int .i64 b2] 26 (0, 0))) ∧ Aside0 (wr.heap[p6]? = some (.cells #[.int .i64 0, .int .i64 0, .int .i64 0] 26 (0, 0))) ∧ Aside0 (wr.heap[p8]? = some (.cells (OV y0 y1 y2 k) 26 (0, 0))) ∧ Aside0 (Below w.heap.size w wr)) (fun v12 _ => 4 - (intOf v12).toNat)
    case atStart => exact ⟨0, by decide, rfl, H3, H4, H6, H8, HB⟩
    case round =>
     clear H3 H4 H6 H8 HB
     obtain ⟨k, hk, rfl, H3, H4, H6, H8, HB⟩ := hrel
     have hk4 : k = 0 ∨ k = 1 ∨ k = 2 ∨ k = 3 := by omega
     clear hk
     rcases hk4 with rfl | rfl | rfl | rfl
     ·
      go_upto_region 5 with fail
      refine start_ (n := 13) (S := fun w' => w'.heap[p3]? = some (.cells #[.int .i64 a0, .int .i64 a1, .int .i64 a2] 26 (0, 0)) ∧ w'.heap[p4]? = some (.cells #[.int .i64 b0, .int .i64 b1, .int .i64 b2] 26 (0, 0))) (ds := []) (flg 13 0) (by kernel_rfl) rfl rfl ⟨H3.out, H4.out⟩ (fun hHeld => ?_)
      replace H3 := am (blk_drew H3.out)
      replace H4 := am (blk_drew H4.out)
      replace H6 := am (blk_drew H6.out)
      replace H8 := am (blk_drew H8.out)
      replace HB := am (below_drew HB.out)
      generalize wr.drew = wd at H3 H4 H6 H8 HB hHeld ⊢
      refine pure_ (i := 0) (N := (some 16)) (v := ?_) (a' := ?_) (flg 13 1) rfl rfl (by kernel_rfl) (fun _ _ _ h => h) (Or.inl ⟨by rfl, ?_⟩) ?_ ?_
      rotate_left
      ·
       intro w'
       go_simp
       with_reducible rfl
      rotate_left
      ·
       simp only [pw]
       rfl
      refine pure_ (i := 1) (N := (some 17)) (v := ?_) (a' := ?_) (flg 13 3) rfl rfl (by kernel_rfl) (fun _ _ _ h => h) (Or.inl ⟨by rfl, ?_⟩) ?_ ?_
      rotate_left
      ·
       intro w'
       go_simp
       with_reducible rfl
      rotate_left
      ·
       simp only [pw]
       rfl
      refine pure_ (i := 2) (N := (some 18)) (v := ?_) (a' := ?_) (flg 13 7) rfl rfl (by kernel_rfl) (fun _ _ _ h => h) (Or.inl ⟨by rfl, ?_⟩) ?_ ?_
      rotate_left
      ·
       intro w'
       go_simp
       with_reducible rfl
      rotate_left
      ·
       simp only [pw]
       rfl
      refine take_ (i := 3) (N := (some 19)) (v := ?_) (a' := ?_) (flg 13 15) rfl rfl (by kernel_rfl) (fun _ _ _ h => h) (Or.inl ⟨by rfl, ?_⟩) hHeld ?_ ?_
      rotate_left
      ·
       rintro w' ⟨s0, s1⟩
       have x := bcv s0 0 (.int .i64 a0) rfl
       go_simp
       with_reducible rfl
      rotate_left
      ·
       simp only [pw]
       rfl
      refine pure_ (i := 4) (N := (some 20)) (v := ?_) (a' := ?_) (flg 13 31) rfl rfl (by kernel_rfl) (fun _ _ _ h => h) (Or.inl ⟨by rfl, ?_⟩) ?_ ?_
      rotate_left
      ·
       intro w'
       go_simp
       with_reducible rfl
      rotate_left
      ·
       simp only [pw]
       rfl
      refine pure_ (i := 5) (N := (some 21)) (v := ?_) (a' := ?_) (flg 13 63) rfl rfl (by kernel_rfl) (fun _ _ _ h => h) (Or.inl ⟨by rfl, ?_⟩) ?_ ?_
      rotate_left
      ·
       intro w'
       go_simp
       with_reducible rfl
      rotate_left
      ·
       simp only [pw]
       rfl
      refine take_ (i := 6) (N := (some 22)) (v := ?_) (a' := ?_) (flg 13 127) rfl rfl (by kernel_rfl) (fun _ _ _ h => h) (Or.inl ⟨by rfl, ?_⟩) hHeld ?_ ?_
      rotate_left
      ·
       rintro w' ⟨s0, s1⟩
       have x := bcv s1 0 (.int .i64 b0) rfl
       go_simp
       with_reducible rfl
      rotate_left
      ·
       simp only [pw]
       rfl
      refine one_ (i := 7) (N := (some 23)) (flg 13 255) rfl rfl (by kernel_rfl) (by decide) (fun K hK => ?_)
      refine goesv_ hc #[.int .i64 a0, .int .i64 b0] (by rfl) rfl rfl (by rfl) (by (try simp only [List.map_toArray, List.map_cons, List.map_nil]); first | done | rfl) ?_
      refine (HD0.out wd (HG.out.below HB.out) (hP _ _ HP.out HB.out)).mono ?_
      rintro e we ⟨rfl, hb⟩
      replace H3 := am (blk_below H3.out hb)
      replace H4 := am (blk_below H4.out hb)
      replace H6 := am (blk_below H6.out hb)
      replace H8 := am (blk_below H8.out hb)
      replace HB := am (below_step HB.out hb)
      clear hb hHeld
      refine ⟨_, rfl, ?_⟩
      refine hK.out _ _ ⟨H3.out, H4.out⟩ (fun hHeld => ?_)
      clear hK K
      refine norm_ (a' := ?_) ?_ ?_
      rotate_left
      ·
       show Act.put _ (some 23) _ = _
       simp only [pw]
       rfl
      refine pure_ (i := 8) (N := (some 15)) (v := ?_) (a' := ?_) (flg 13 511) rfl rfl (by kernel_rfl) (fun _ _ _ h => h) (Or.inl ⟨by rfl, ?_⟩) ?_ ?_
      rotate_left
      ·
       intro w'
       go_simp
       with_reducible rfl
      rotate_left
      ·
       simp only [pw]
       rfl
      refine pure_ (i := 9) (N := (some 24)) (v := ?_) (a' := ?_) (flg 13 1023) rfl rfl (by kernel_rfl) (fun _ _ _ h => h) (Or.inl ⟨by rfl, ?_⟩) ?_ ?_
      rotate_left
      ·
       intro w'
       go_simp
       with_reducible rfl
      rotate_left
      ·
       simp only [pw]
       rfl
      refine pure_ (i := 10) (N := (some 25)) (v := ?_) (a' := ?_) (flg 13 2047) rfl rfl (by kernel_rfl) (fun _ _ _ h => h) (Or.inl ⟨by rfl, ?_⟩) ?_ ?_
      rotate_left
      ·
       intro w'
       go_simp
       with_reducible rfl
      rotate_left
      ·
       simp only [pw]
       rfl
      refine pure_ (i := 11) (N := (some 10)) (v := ?_) (a' := ?_) (flg 13 4095) rfl rfl (by kernel_rfl) (fun _ _ _ h => h) (Or.inl ⟨by rfl, ?_⟩) ?_ ?_
      rotate_left
      ·
       intro w'
       go_simp
       with_reducible rfl
      rotate_left
      ·
       simp only [pw]
       rfl
      refine pure_ (i := 12) (N := (some 11)) (v := ?_) (a' := ?_) (flg 13 8191) rfl rfl (by kernel_rfl) (fun _ _ _ h => h) (Or.inl ⟨by rfl, ?_⟩) ?_ ?_
      rotate_left
      ·
       intro w'
       go_simp
       with_reducible rfl
      rotate_left
      ·
       simp only [pw]
       rfl
      refine done_ (by kernel_rfl) ?_
      have z := bcv H8.out 0 (.int .i64 0) rfl
      have f := bfz H8.out 0
      go_wp2_with fail
      have q := (blk_set H8.out 0 (.int .i64 y0)).trans (show _ = some (Obj.cells (OV y0 y1 y2 1) 26 (0, 0)) by kernel_rfl)
      have q3 := blk_far H3.out (p := ⟨p8, 0, none⟩) n38 (.int .i64 y0)
      have q4 := blk_far H4.out (p := ⟨p8, 0, none⟩) n48 (.int .i64 y0)
      have q6 := blk_far H6.out (p := ⟨p8, 0, none⟩) n68 (.int .i64 y0)
      have qb := HB.out.setCell (p := ⟨p8, 0, none⟩) g8 (.int .i64 y0)
      go_roundw
      case rel => exact ⟨1, by decide, rfl, ⟨q3⟩, ⟨q4⟩, ⟨q6⟩, ⟨q⟩, ⟨qb⟩⟩
      case measure => decide
     ·
      go_upto_region 5 with fail
      refine start_ (n := 13) (S := fun w' => w'.heap[p3]? = some (.cells #[.int .i64 a0, .int .i64 a1, .int .i64 a2] 26 (0, 0)) ∧ w'.heap[p4]? = some (.cells #[.int .i64 b0, .int .i64 b1, .int .i64 b2] 26 (0, 0))) (ds := []) (flg 13 0) (by kernel_rfl) rfl rfl ⟨H3.out, H4.out⟩ (fun hHeld => ?_)
      replace H3 := am (blk_drew H3.out)
      replace H4 := am (blk_drew H4.out)
      replace H6 := am (blk_drew H6.out)
      replace H8 := am (blk_drew H8.out)
      replace HB := am (below_drew HB.out)
      generalize wr.drew = wd at H3 H4 H6 H8 HB hHeld ⊢
      refine pure_ (i := 0) (N := (some 16)) (v := ?_) (a' := ?_) (flg 13 1) rfl rfl (by kernel_rfl) (fun _ _ _ h => h) (Or.inl ⟨by rfl, ?_⟩) ?_ ?_
      rotate_left
      ·
       intro w'
       go_simp
       with_reducible rfl
      rotate_left
      ·
       simp only [pw]
       rfl
      refine pure_ (i := 1) (N := (some 17)) (v := ?_) (a' := ?_) (flg 13 3) rfl rfl (by kernel_rfl) (fun _ _ _ h => h) (Or.inl ⟨by rfl, ?_⟩) ?_ ?_
      rotate_left
      ·
       intro w'
       go_simp
       with_reducible rfl
      rotate_left
      ·
       simp only [pw]
       rfl
      refine pure_ (i := 2) (N := (some 18)) (v := ?_) (a' := ?_) (flg 13 7) rfl rfl (by kernel_rfl) (fun _ _ _ h => h) (Or.inl ⟨by rfl, ?_⟩) ?_ ?_
      rotate_left
      ·
       intro w'
       go_simp
       with_reducible rfl
      rotate_left
      ·
       simp only [pw]
       rfl
      refine take_ (i := 3) (N := (some 19)) (v := ?_) (a' := ?_) (flg 13 15) rfl rfl (by kernel_rfl) (fun _ _ _ h => h) (Or.inl ⟨by rfl, ?_⟩) hHeld ?_ ?_
      rotate_left
      ·
       rintro w' ⟨s0, s1⟩
       have x := bcv s0 1 (.int .i64 a1) rfl
       go_simp
       with_reducible rfl
      rotate_left
      ·
       simp only [pw]
       rfl
      refine pure_ (i := 4) (N := (some 20)) (v := ?_) (a' := ?_) (flg 13 31) rfl rfl (by kernel_rfl) (fun _ _ _ h => h) (Or.inl ⟨by rfl, ?_⟩) ?_ ?_
      rotate_left
      ·
       intro w'
       go_simp
       with_reducible rfl
      rotate_left
      ·
       simp only [pw]
       rfl
      refine pure_ (i := 5) (N := (some 21)) (v := ?_) (a' := ?_) (flg 13 63) rfl rfl (by kernel_rfl) (fun _ _ _ h => h) (Or.inl ⟨by rfl, ?_⟩) ?_ ?_
      rotate_left
      ·
       intro w'
       go_simp
       with_reducible rfl
      rotate_left
      ·
       simp only [pw]
       rfl
      refine take_ (i := 6) (N := (some 22)) (v := ?_) (a' := ?_) (flg 13 127) rfl rfl (by kernel_rfl) (fun _ _ _ h => h) (Or.inl ⟨by rfl, ?_⟩) hHeld ?_ ?_
      rotate_left
      ·
       rintro w' ⟨s0, s1⟩
       have x := bcv s1 1 (.int .i64 b1) rfl
       go_simp
       with_reducible rfl
      rotate_left
      ·
       simp only [pw]
       rfl
      refine one_ (i := 7) (N := (some 23)) (flg 13 255) rfl rfl (by kernel_rfl) (by decide) (fun K hK => ?_)
      refine goesv_ hc #[.int .i64 a1, .int .i64 b1] (by rfl) rfl rfl (by rfl) (by (try simp only [List.map_toArray, List.map_cons, List.map_nil]); first | done | rfl) ?_
      refine (HD1.out wd (HG.out.below HB.out) (hP _ _ HP.out HB.out)).mono ?_
      rintro e we ⟨rfl, hb⟩
      replace H3 := am (blk_below H3.out hb)
      replace H4 := am (blk_below H4.out hb)
      replace H6 := am (blk_below H6.out hb)
      replace H8 := am (blk_below H8.out hb)
      replace HB := am (below_step HB.out hb)
      clear hb hHeld
      refine ⟨_, rfl, ?_⟩
      refine hK.out _ _ ⟨H3.out, H4.out⟩ (fun hHeld => ?_)
      clear hK K
      refine norm_ (a' := ?_) ?_ ?_
      rotate_left
      ·
       show Act.put _ (some 23) _ = _
       simp only [pw]
       rfl
      refine pure_ (i := 8) (N := (some 15)) (v := ?_) (a' := ?_) (flg 13 511) rfl rfl (by kernel_rfl) (fun _ _ _ h => h) (Or.inl ⟨by rfl, ?_⟩) ?_ ?_
      rotate_left
      ·
       intro w'
       go_simp
       with_reducible rfl
      rotate_left
      ·
       simp only [pw]
       rfl
      refine pure_ (i := 9) (N := (some 24)) (v := ?_) (a' := ?_) (flg 13 1023) rfl rfl (by kernel_rfl) (fun _ _ _ h => h) (Or.inl ⟨by rfl, ?_⟩) ?_ ?_
      rotate_left
      ·
       intro w'
       go_simp
       with_reducible rfl
      rotate_left
      ·
       simp only [pw]
       rfl
      refine pure_ (i := 10) (N := (some 25)) (v := ?_) (a' := ?_) (flg 13 2047) rfl rfl (by kernel_rfl) (fun _ _ _ h => h) (Or.inl ⟨by rfl, ?_⟩) ?_ ?_
      rotate_left
      ·
       intro w'
       go_simp
       with_reducible rfl
      rotate_left
      ·
       simp only [pw]
       rfl
      refine pure_ (i := 11) (N := (some 10)) (v := ?_) (a' := ?_) (flg 13 4095) rfl rfl (by kernel_rfl) (fun _ _ _ h => h) (Or.inl ⟨by rfl, ?_⟩) ?_ ?_
      rotate_left
      ·
       intro w'
       go_simp
       with_reducible rfl
      rotate_left
      ·
       simp only [pw]
       rfl
      refine pure_ (i := 12) (N := (some 11)) (v := ?_) (a' := ?_) (flg 13 8191) rfl rfl (by kernel_rfl) (fun _ _ _ h => h) (Or.inl ⟨by rfl, ?_⟩) ?_ ?_
      rotate_left
      ·
       intro w'
       go_simp
       with_reducible rfl
      rotate_left
      ·
       simp only [pw]
       rfl
      refine done_ (by kernel_rfl) ?_
      have z := bcv H8.out 1 (.int .i64 0) rfl
      have f := bfz H8.out 1
      go_wp2_with fail
      have q := (blk_set H8.out 1 (.int .i64 y1)).trans (show _ = some (Obj.cells (OV y0 y1 y2 2) 26 (0, 0)) by kernel_rfl)
      have q3 := blk_far H3.out (p := ⟨p8, 1, none⟩) n38 (.int .i64 y1)
      have q4 := blk_far H4.out (p := ⟨p8, 1, none⟩) n48 (.int .i64 y1)
      have q6 := blk_far H6.out (p := ⟨p8, 1, none⟩) n68 (.int .i64 y1)
      have qb := HB.out.setCell (p := ⟨p8, 1, none⟩) g8 (.int .i64 y1)
      go_roundw
      case rel => exact ⟨2, by decide, rfl, ⟨q3⟩, ⟨q4⟩, ⟨q6⟩, ⟨q⟩, ⟨qb⟩⟩
      case measure => decide
     ·
      go_upto_region 5 with fail
      refine start_ (n := 13) (S := fun w' => w'.heap[p3]? = some (.cells #[.int .i64 a0, .int .i64 a1, .int .i64 a2] 26 (0, 0)) ∧ w'.heap[p4]? = some (.cells #[.int .i64 b0, .int .i64 b1, .int .i64 b2] 26 (0, 0))) (ds := []) (flg 13 0) (by kernel_rfl) rfl rfl ⟨H3.out, H4.out⟩ (fun hHeld => ?_)
      replace H3 := am (blk_drew H3.out)
      replace H4 := am (blk_drew H4.out)
      replace H6 := am (blk_drew H6.out)
      replace H8 := am (blk_drew H8.out)
      replace HB := am (below_drew HB.out)
      generalize wr.drew = wd at H3 H4 H6 H8 HB hHeld ⊢
      refine pure_ (i := 0) (N := (some 16)) (v := ?_) (a' := ?_) (flg 13 1) rfl rfl (by kernel_rfl) (fun _ _ _ h => h) (Or.inl ⟨by rfl, ?_⟩) ?_ ?_
      rotate_left
      ·
       intro w'
       go_simp
       with_reducible rfl
      rotate_left
      ·
       simp only [pw]
       rfl
      refine pure_ (i := 1) (N := (some 17)) (v := ?_) (a' := ?_) (flg 13 3) rfl rfl (by kernel_rfl) (fun _ _ _ h => h) (Or.inl ⟨by rfl, ?_⟩) ?_ ?_
      rotate_left
      ·
       intro w'
       go_simp
       with_reducible rfl
      rotate_left
      ·
       simp only [pw]
       rfl
      refine pure_ (i := 2) (N := (some 18)) (v := ?_) (a' := ?_) (flg 13 7) rfl rfl (by kernel_rfl) (fun _ _ _ h => h) (Or.inl ⟨by rfl, ?_⟩) ?_ ?_
      rotate_left
      ·
       intro w'
       go_simp
       with_reducible rfl
      rotate_left
      ·
       simp only [pw]
       rfl
      refine take_ (i := 3) (N := (some 19)) (v := ?_) (a' := ?_) (flg 13 15) rfl rfl (by kernel_rfl) (fun _ _ _ h => h) (Or.inl ⟨by rfl, ?_⟩) hHeld ?_ ?_
      rotate_left
      ·
       rintro w' ⟨s0, s1⟩
       have x := bcv s0 2 (.int .i64 a2) rfl
       go_simp
       with_reducible rfl
      rotate_left
      ·
       simp only [pw]
       rfl
      refine pure_ (i := 4) (N := (some 20)) (v := ?_) (a' := ?_) (flg 13 31) rfl rfl (by kernel_rfl) (fun _ _ _ h => h) (Or.inl ⟨by rfl, ?_⟩) ?_ ?_
      rotate_left
      ·
       intro w'
       go_simp
       with_reducible rfl
      rotate_left
      ·
       simp only [pw]
       rfl
      refine pure_ (i := 5) (N := (some 21)) (v := ?_) (a' := ?_) (flg 13 63) rfl rfl (by kernel_rfl) (fun _ _ _ h => h) (Or.inl ⟨by rfl, ?_⟩) ?_ ?_
      rotate_left
      ·
       intro w'
       go_simp
       with_reducible rfl
      rotate_left
      ·
       simp only [pw]
       rfl
      refine take_ (i := 6) (N := (some 22)) (v := ?_) (a' := ?_) (flg 13 127) rfl rfl (by kernel_rfl) (fun _ _ _ h => h) (Or.inl ⟨by rfl, ?_⟩) hHeld ?_ ?_
      rotate_left
      ·
       rintro w' ⟨s0, s1⟩
       have x := bcv s1 2 (.int .i64 b2) rfl
       go_simp
       with_reducible rfl
      rotate_left
      ·
       simp only [pw]
       rfl
      refine one_ (i := 7) (N := (some 23)) (flg 13 255) rfl rfl (by kernel_rfl) (by decide) (fun K hK => ?_)
      refine goesv_ hc #[.int .i64 a2, .int .i64 b2] (by rfl) rfl rfl (by rfl) (by (try simp only [List.map_toArray, List.map_cons, List.map_nil]); first | done | rfl) ?_
      refine (HD2.out wd (HG.out.below HB.out) (hP _ _ HP.out HB.out)).mono ?_
      rintro e we ⟨rfl, hb⟩
      replace H3 := am (blk_below H3.out hb)
      replace H4 := am (blk_below H4.out hb)
      replace H6 := am (blk_below H6.out hb)
      replace H8 := am (blk_below H8.out hb)
      replace HB := am (below_step HB.out hb)
      clear hb hHeld
      refine ⟨_, rfl, ?_⟩
      refine hK.out _ _ ⟨H3.out, H4.out⟩ (fun hHeld => ?_)
      clear hK K
      refine norm_ (a' := ?_) ?_ ?_
      rotate_left
      ·
       show Act.put _ (some 23) _ = _
       simp only [pw]
       rfl
      refine pure_ (i := 8) (N := (some 15)) (v := ?_) (a' := ?_) (flg 13 511) rfl rfl (by kernel_rfl) (fun _ _ _ h => h) (Or.inl ⟨by rfl, ?_⟩) ?_ ?_
      rotate_left
      ·
       intro w'
       go_simp
       with_reducible rfl
      rotate_left
      ·
       simp only [pw]
       rfl
      refine pure_ (i := 9) (N := (some 24)) (v := ?_) (a' := ?_) (flg 13 1023) rfl rfl (by kernel_rfl) (fun _ _ _ h => h) (Or.inl ⟨by rfl, ?_⟩) ?_ ?_
      rotate_left
      ·
       intro w'
       go_simp
       with_reducible rfl
      rotate_left
      ·
       simp only [pw]
       rfl
      refine pure_ (i := 10) (N := (some 25)) (v := ?_) (a' := ?_) (flg 13 2047) rfl rfl (by kernel_rfl) (fun _ _ _ h => h) (Or.inl ⟨by rfl, ?_⟩) ?_ ?_
      rotate_left
      ·
       intro w'
       go_simp
       with_reducible rfl
      rotate_left
      ·
       simp only [pw]
       rfl
      refine pure_ (i := 11) (N := (some 10)) (v := ?_) (a' := ?_) (flg 13 4095) rfl rfl (by kernel_rfl) (fun _ _ _ h => h) (Or.inl ⟨by rfl, ?_⟩) ?_ ?_
      rotate_left
      ·
       intro w'
       go_simp
       with_reducible rfl
      rotate_left
      ·
       simp only [pw]
       rfl
      refine pure_ (i := 12) (N := (some 11)) (v := ?_) (a' := ?_) (flg 13 8191) rfl rfl (by kernel_rfl) (fun _ _ _ h => h) (Or.inl ⟨by rfl, ?_⟩) ?_ ?_
      rotate_left
      ·
       intro w'
       go_simp
       with_reducible rfl
      rotate_left
      ·
       simp only [pw]
       rfl
      refine done_ (by kernel_rfl) ?_
      have z := bcv H8.out 2 (.int .i64 0) rfl
      have f := bfz H8.out 2
      go_wp2_with fail
      have q := (blk_set H8.out 2 (.int .i64 y2)).trans (show _ = some (Obj.cells (OV y0 y1 y2 3) 26 (0, 0)) by kernel_rfl)
      have q3 := blk_far H3.out (p := ⟨p8, 2, none⟩) n38 (.int .i64 y2)
      have q4 := blk_far H4.out (p := ⟨p8, 2, none⟩) n48 (.int .i64 y2)
      have q6 := blk_far H6.out (p := ⟨p8, 2, none⟩) n68 (.int .i64 y2)
      have qb := HB.out.setCell (p := ⟨p8, 2, none⟩) g8 (.int .i64 y2)
      go_roundw
      case rel => exact ⟨3, by decide, rfl, ⟨q3⟩, ⟨q4⟩, ⟨q6⟩, ⟨q⟩, ⟨qb⟩⟩
      case measure => decide
     ·
      have z0 := bcv H8.out 0 (.int .i64 y0) rfl
      have z1 := bcv H8.out 1 (.int .i64 y1) rfl
      have z2 := bcv H8.out 2 (.int .i64 y2) rfl
      have u0 := bcv H6.out 0 (.int .i64 0) rfl
      have u1 := bcv H6.out 1 (.int .i64 0) rfl
      have u2 := bcv H6.out 2 (.int .i64 0) rfl
      have f0 := bfz H6.out 0
      have f1 := bfz H6.out 1
      have f2 := bfz H6.out 2
      go_wp2_with fail
      obtain ⟨q, qb⟩ := three_set rfl H6.out g6 HB.out (.int .i64 y0) (.int .i64 y1) (.int .i64 y2)
      exact bodyPost_ret (results_ct rfl _ _ p6 26 _ (0, 0) _ rfl q Tryz.underlying26 rfl (by kernel_rfl)) rfl ⟨rfl, qb⟩
   ·
    have q1 : (e2 == 0) = false := by simp [h2]
    have q2 : decide (e2 = 0) = false := decide_eq_false h2
    have r : ∀ y, RR 0 0 e2 y = 0 := fun y => by simp [RR, h2]
    rw [r, r, r, show EE 0 0 e2 = e2 by simp [EE]]
    clear r
    have HG := am hG
    have HP := am hp
    clear hG hp
    unfold vec
    go_enter Tryz.func129, Tryz.ntmps129
    go_upto_region 2 with fail
    obtain ⟨x3, x4, x6, x8, hB⟩ := blocks4 w #[.int .i64 a0, .int .i64 a1, .int .i64 a2] #[.int .i64 b0, .int .i64 b1, .int .i64 b2] #[.int .i64 0, .int .i64 0, .int .i64 0] #[.int .i64 0, .int .i64 0, .int .i64 0] 26 26 26 26
    generalize (((w.alloc (.cells #[.int .i64 a0, .int .i64 a1, .int .i64 a2] 26)).alloc (.cells #[.int .i64 b0, .int .i64 b1, .int .i64 b2] 26)).alloc (.cells #[.int .i64 0, .int .i64 0, .int .i64 0] 26)).alloc (.cells #[.int .i64 0, .int .i64 0, .int .i64 0] 26) = w1 at x3 x4 x6 x8 hB ⊢
    obtain ⟨p3, h3⟩ : ∃ b, b = w.heap.size := ⟨_, rfl⟩
    obtain ⟨p4, h4⟩ : ∃ b, b = w.heap.size + 1 := ⟨_, rfl⟩
    obtain ⟨p6, h6⟩ : ∃ b, b = w.heap.size + 1 + 1 := ⟨_, rfl⟩
    obtain ⟨p8, h8⟩ : ∃ b, b = w.heap.size + 1 + 1 + 1 := ⟨_, rfl⟩
    have g6 : w.heap.size ≤ p6 := by omega
    have g8 : w.heap.size ≤ p8 := by omega
    have n38 : p3 ≠ p8 := by omega
    have n48 : p4 ≠ p8 := by omega
    have n68 : p6 ≠ p8 := by omega
    rw [← h8, ← h6, ← h4, ← h3]
    rw [← h8] at x8
    rw [← h6] at x6
    rw [← h4] at x4
    rw [← h3] at x3
    have H3 := am x3
    have H4 := am x4
    have H6 := am x6
    have H8 := am (show w1.heap[p8]? = some (.cells (OV y0 y1 y2 0) 26 (0, 0)) from x8)
    have HB := am hB
    clear x3 x4 x6 x8 hB h3 h4 h6 h8
    go_wp2_with fail
    go_loopw [12] (fun v12 wr => ∃ k : Int, (0 ≤ k ∧ k ≤ 2) ∧ v12 = .int .i64 k ∧ Aside0 (wr.heap[p3]? = some (.cells #[.int .i64 a0, .int .i64 a1, .int .i64 a2] 26 (0, 0))) ∧ Aside0 (wr.heap[p4]? = some (.cells #[.int .i64 b0, .int .i64 b1, .int .i64 b2] 26 (0, 0))) ∧ Aside0 (wr.heap[p6]? = some (.cells #[.int .i64 0, .int .i64 0, .int .i64 0] 26 (0, 0))) ∧ Aside0 (wr.heap[p8]? = some (.cells (OV y0 y1 y2 k) 26 (0, 0))) ∧ Aside0 (Below w.heap.size w wr)) (fun v12 _ => 4 - (intOf v12).toNat)
    case atStart => exact ⟨0, by decide, rfl, H3, H4, H6, H8, HB⟩
    case round =>
     clear H3 H4 H6 H8 HB
     obtain ⟨k, hk, rfl, H3, H4, H6, H8, HB⟩ := hrel
     have hk4 : k = 0 ∨ k = 1 ∨ k = 2 := by omega
     clear hk
     rcases hk4 with rfl | rfl | rfl
     ·
      go_upto_region 5 with fail
      refine start_ (n := 13) (S := fun w' => w'.heap[p3]? = some (.cells #[.int .i64 a0, .int .i64 a1, .int .i64 a2] 26 (0, 0)) ∧ w'.heap[p4]? = some (.cells #[.int .i64 b0, .int .i64 b1, .int .i64 b2] 26 (0, 0))) (ds := []) (flg 13 0) (by kernel_rfl) rfl rfl ⟨H3.out, H4.out⟩ (fun hHeld => ?_)
      replace H3 := am (blk_drew H3.out)
      replace H4 := am (blk_drew H4.out)
      replace H6 := am (blk_drew H6.out)
      replace H8 := am (blk_drew H8.out)
      replace HB := am (below_drew HB.out)
      generalize wr.drew = wd at H3 H4 H6 H8 HB hHeld ⊢
      refine pure_ (i := 0) (N := (some 16)) (v := ?_) (a' := ?_) (flg 13 1) rfl rfl (by kernel_rfl) (fun _ _ _ h => h) (Or.inl ⟨by rfl, ?_⟩) ?_ ?_
      rotate_left
      ·
       intro w'
       go_simp
       with_reducible rfl
      rotate_left
      ·
       simp only [pw]
       rfl
      refine pure_ (i := 1) (N := (some 17)) (v := ?_) (a' := ?_) (flg 13 3) rfl rfl (by kernel_rfl) (fun _ _ _ h => h) (Or.inl ⟨by rfl, ?_⟩) ?_ ?_
      rotate_left
      ·
       intro w'
       go_simp
       with_reducible rfl
      rotate_left
      ·
       simp only [pw]
       rfl
      refine pure_ (i := 2) (N := (some 18)) (v := ?_) (a' := ?_) (flg 13 7) rfl rfl (by kernel_rfl) (fun _ _ _ h => h) (Or.inl ⟨by rfl, ?_⟩) ?_ ?_
      rotate_left
      ·
       intro w'
       go_simp
       with_reducible rfl
      rotate_left
      ·
       simp only [pw]
       rfl
      refine take_ (i := 3) (N := (some 19)) (v := ?_) (a' := ?_) (flg 13 15) rfl rfl (by kernel_rfl) (fun _ _ _ h => h) (Or.inl ⟨by rfl, ?_⟩) hHeld ?_ ?_
      rotate_left
      ·
       rintro w' ⟨s0, s1⟩
       have x := bcv s0 0 (.int .i64 a0) rfl
       go_simp
       with_reducible rfl
      rotate_left
      ·
       simp only [pw]
       rfl
      refine pure_ (i := 4) (N := (some 20)) (v := ?_) (a' := ?_) (flg 13 31) rfl rfl (by kernel_rfl) (fun _ _ _ h => h) (Or.inl ⟨by rfl, ?_⟩) ?_ ?_
      rotate_left
      ·
       intro w'
       go_simp
       with_reducible rfl
      rotate_left
      ·
       simp only [pw]
       rfl
      refine pure_ (i := 5) (N := (some 21)) (v := ?_) (a' := ?_) (flg 13 63) rfl rfl (by kernel_rfl) (fun _ _ _ h => h) (Or.inl ⟨by rfl, ?_⟩) ?_ ?_
      rotate_left
      ·
       intro w'
       go_simp
       with_reducible rfl
      rotate_left
      ·
       simp only [pw]
       rfl
      refine take_ (i := 6) (N := (some 22)) (v := ?_) (a' := ?_) (flg 13 127) rfl rfl (by kernel_rfl) (fun _ _ _ h => h) (Or.inl ⟨by rfl, ?_⟩) hHeld ?_ ?_
      rotate_left
      ·
       rintro w' ⟨s0, s1⟩
       have x := bcv s1 0 (.int .i64 b0) rfl
       go_simp
       with_reducible rfl
      rotate_left
      ·
       simp only [pw]
       rfl
      refine one_ (i := 7) (N := (some 23)) (flg 13 255) rfl rfl (by kernel_rfl) (by decide) (fun K hK => ?_)
      refine goesv_ hc #[.int .i64 a0, .int .i64 b0] (by rfl) rfl rfl (by rfl) (by (try simp only [List.map_toArray, List.map_cons, List.map_nil]); first | done | rfl) ?_
      refine (HD0.out wd (HG.out.below HB.out) (hP _ _ HP.out HB.out)).mono ?_
      rintro e we ⟨rfl, hb⟩
      replace H3 := am (blk_below H3.out hb)
      replace H4 := am (blk_below H4.out hb)
      replace H6 := am (blk_below H6.out hb)
      replace H8 := am (blk_below H8.out hb)
      replace HB := am (below_step HB.out hb)
      clear hb hHeld
      refine ⟨_, rfl, ?_⟩
      refine hK.out _ _ ⟨H3.out, H4.out⟩ (fun hHeld => ?_)
      clear hK K
      refine norm_ (a' := ?_) ?_ ?_
      rotate_left
      ·
       show Act.put _ (some 23) _ = _
       simp only [pw]
       rfl
      refine pure_ (i := 8) (N := (some 15)) (v := ?_) (a' := ?_) (flg 13 511) rfl rfl (by kernel_rfl) (fun _ _ _ h => h) (Or.inl ⟨by rfl, ?_⟩) ?_ ?_
      rotate_left
      ·
       intro w'
       go_simp
       with_reducible rfl
      rotate_left
      ·
       simp only [pw]
       rfl
      refine pure_ (i := 9) (N := (some 24)) (v := ?_) (a' := ?_) (flg 13 1023) rfl rfl (by kernel_rfl) (fun _ _ _ h => h) (Or.inl ⟨by rfl, ?_⟩) ?_ ?_
      rotate_left
      ·
       intro w'
       go_simp
       with_reducible rfl
      rotate_left
      ·
       simp only [pw]
       rfl
      refine pure_ (i := 10) (N := (some 25)) (v := ?_) (a' := ?_) (flg 13 2047) rfl rfl (by kernel_rfl) (fun _ _ _ h => h) (Or.inl ⟨by rfl, ?_⟩) ?_ ?_
      rotate_left
      ·
       intro w'
       go_simp
       with_reducible rfl
      rotate_left
      ·
       simp only [pw]
       rfl
      refine pure_ (i := 11) (N := (some 10)) (v := ?_) (a' := ?_) (flg 13 4095) rfl rfl (by kernel_rfl) (fun _ _ _ h => h) (Or.inl ⟨by rfl, ?_⟩) ?_ ?_
      rotate_left
      ·
       intro w'
       go_simp
       with_reducible rfl
      rotate_left
      ·
       simp only [pw]
       rfl
      refine pure_ (i := 12) (N := (some 11)) (v := ?_) (a' := ?_) (flg 13 8191) rfl rfl (by kernel_rfl) (fun _ _ _ h => h) (Or.inl ⟨by rfl, ?_⟩) ?_ ?_
      rotate_left
      ·
       intro w'
       go_simp
       with_reducible rfl
      rotate_left
      ·
       simp only [pw]
       rfl
      refine done_ (by kernel_rfl) ?_
      have z := bcv H8.out 0 (.int .i64 0) rfl
      have f := bfz H8.out 0
      go_wp2_with fail
      have q := (blk_set H8.out 0 (.int .i64 y0)).trans (show _ = some (Obj.cells (OV y0 y1 y2 1) 26 (0, 0)) by kernel_rfl)
      have q3 := blk_far H3.out (p := ⟨p8, 0, none⟩) n38 (.int .i64 y0)
      have q4 := blk_far H4.out (p := ⟨p8, 0, none⟩) n48 (.int .i64 y0)
      have q6 := blk_far H6.out (p := ⟨p8, 0, none⟩) n68 (.int .i64 y0)
      have qb := HB.out.setCell (p := ⟨p8, 0, none⟩) g8 (.int .i64 y0)
      go_roundw
      case rel => exact ⟨1, by decide, rfl, ⟨q3⟩, ⟨q4⟩, ⟨q6⟩, ⟨q⟩, ⟨qb⟩⟩
      case measure => decide
     ·
      go_upto_region 5 with fail
      refine start_ (n := 13) (S := fun w' => w'.heap[p3]? = some (.cells #[.int .i64 a0, .int .i64 a1, .int .i64 a2] 26 (0, 0)) ∧ w'.heap[p4]? = some (.cells #[.int .i64 b0, .int .i64 b1, .int .i64 b2] 26 (0, 0))) (ds := []) (flg 13 0) (by kernel_rfl) rfl rfl ⟨H3.out, H4.out⟩ (fun hHeld => ?_)
      replace H3 := am (blk_drew H3.out)
      replace H4 := am (blk_drew H4.out)
      replace H6 := am (blk_drew H6.out)
      replace H8 := am (blk_drew H8.out)
      replace HB := am (below_drew HB.out)
      generalize wr.drew = wd at H3 H4 H6 H8 HB hHeld ⊢
      refine pure_ (i := 0) (N := (some 16)) (v := ?_) (a' := ?_) (flg 13 1) rfl rfl (by kernel_rfl) (fun _ _ _ h => h) (Or.inl ⟨by rfl, ?_⟩) ?_ ?_
      rotate_left
      ·
       intro w'
       go_simp
       with_reducible rfl
      rotate_left
      ·
       simp only [pw]
       rfl
      refine pure_ (i := 1) (N := (some 17)) (v := ?_) (a' := ?_) (flg 13 3) rfl rfl (by kernel_rfl) (fun _ _ _ h => h) (Or.inl ⟨by rfl, ?_⟩) ?_ ?_
      rotate_left
      ·
       intro w'
       go_simp
       with_reducible rfl
      rotate_left
      ·
       simp only [pw]
       rfl
      refine pure_ (i := 2) (N := (some 18)) (v := ?_) (a' := ?_) (flg 13 7) rfl rfl (by kernel_rfl) (fun _ _ _ h => h) (Or.inl ⟨by rfl, ?_⟩) ?_ ?_
      rotate_left
      ·
       intro w'
       go_simp
       with_reducible rfl
      rotate_left
      ·
       simp only [pw]
       rfl
      refine take_ (i := 3) (N := (some 19)) (v := ?_) (a' := ?_) (flg 13 15) rfl rfl (by kernel_rfl) (fun _ _ _ h => h) (Or.inl ⟨by rfl, ?_⟩) hHeld ?_ ?_
      rotate_left
      ·
       rintro w' ⟨s0, s1⟩
       have x := bcv s0 1 (.int .i64 a1) rfl
       go_simp
       with_reducible rfl
      rotate_left
      ·
       simp only [pw]
       rfl
      refine pure_ (i := 4) (N := (some 20)) (v := ?_) (a' := ?_) (flg 13 31) rfl rfl (by kernel_rfl) (fun _ _ _ h => h) (Or.inl ⟨by rfl, ?_⟩) ?_ ?_
      rotate_left
      ·
       intro w'
       go_simp
       with_reducible rfl
      rotate_left
      ·
       simp only [pw]
       rfl
      refine pure_ (i := 5) (N := (some 21)) (v := ?_) (a' := ?_) (flg 13 63) rfl rfl (by kernel_rfl) (fun _ _ _ h => h) (Or.inl ⟨by rfl, ?_⟩) ?_ ?_
      rotate_left
      ·
       intro w'
       go_simp
       with_reducible rfl
      rotate_left
      ·
       simp only [pw]
       rfl
      refine take_ (i := 6) (N := (some 22)) (v := ?_) (a' := ?_) (flg 13 127) rfl rfl (by kernel_rfl) (fun _ _ _ h => h) (Or.inl ⟨by rfl, ?_⟩) hHeld ?_ ?_
      rotate_left
      ·
       rintro w' ⟨s0, s1⟩
       have x := bcv s1 1 (.int .i64 b1) rfl
       go_simp
       with_reducible rfl
      rotate_left
      ·
       simp only [pw]
       rfl
      refine one_ (i := 7) (N := (some 23)) (flg 13 255) rfl rfl (by kernel_rfl) (by decide) (fun K hK => ?_)
      refine goesv_ hc #[.int .i64 a1, .int .i64 b1] (by rfl) rfl rfl (by rfl) (by (try simp only [List.map_toArray, List.map_cons, List.map_nil]); first | done | rfl) ?_
      refine (HD1.out wd (HG.out.below HB.out) (hP _ _ HP.out HB.out)).mono ?_
      rintro e we ⟨rfl, hb⟩
      replace H3 := am (blk_below H3.out hb)
      replace H4 := am (blk_below H4.out hb)
      replace H6 := am (blk_below H6.out hb)
      replace H8 := am (blk_below H8.out hb)
      replace HB := am (below_step HB.out hb)
      clear hb hHeld
      refine ⟨_, rfl, ?_⟩
      refine hK.out _ _ ⟨H3.out, H4.out⟩ (fun hHeld => ?_)
      clear hK K
      refine norm_ (a' := ?_) ?_ ?_
      rotate_left
      ·
       show Act.put _ (some 23) _ = _
       simp only [pw]
       rfl
      refine pure_ (i := 8) (N := (some 15)) (v := ?_) (a' := ?_) (flg 13 511) rfl rfl (by kernel_rfl) (fun _ _ _ h => h) (Or.inl ⟨by rfl, ?_⟩) ?_ ?_
      rotate_left
      ·
       intro w'
       go_simp
       with_reducible rfl
      rotate_left
      ·
       simp only [pw]
       rfl
      refine pure_ (i := 9) (N := (some 24)) (v := ?_) (a' := ?_) (flg 13 1023) rfl rfl (by kernel_rfl) (fun _ _ _ h => h) (Or.inl ⟨by rfl, ?_⟩) ?_ ?_
      rotate_left
      ·
       intro w'
       go_simp
       with_reducible rfl
      rotate_left
      ·
       simp only [pw]
       rfl
      refine pure_ (i := 10) (N := (some 25)) (v := ?_) (a' := ?_) (flg 13 2047) rfl rfl (by kernel_rfl) (fun _ _ _ h => h) (Or.inl ⟨by rfl, ?_⟩) ?_ ?_
      rotate_left
      ·
       intro w'
       go_simp
       with_reducible rfl
      rotate_left
      ·
       simp only [pw]
       rfl
      refine pure_ (i := 11) (N := (some 10)) (v := ?_) (a' := ?_) (flg 13 4095) rfl rfl (by kernel_rfl) (fun _ _ _ h => h) (Or.inl ⟨by rfl, ?_⟩) ?_ ?_
      rotate_left
      ·
       intro w'
       go_simp
       with_reducible rfl
      rotate_left
      ·
       simp only [pw]
       rfl
      refine pure_ (i := 12) (N := (some 11)) (v := ?_) (a' := ?_) (flg 13 8191) rfl rfl (by kernel_rfl) (fun _ _ _ h => h) (Or.inl ⟨by rfl, ?_⟩) ?_ ?_
      rotate_left
      ·
       intro w'
       go_simp
       with_reducible rfl
      rotate_left
      ·
       simp only [pw]
       rfl
      refine done_ (by kernel_rfl) ?_
      have z := bcv H8.out 1 (.int .i64 0) rfl
      have f := bfz H8.out 1
      go_wp2_with fail
      have q := (blk_set H8.out 1 (.int .i64 y1)).trans (show _ = some (Obj.cells (OV y0 y1 y2 2) 26 (0, 0)) by kernel_rfl)
      have q3 := blk_far H3.out (p := ⟨p8, 1, none⟩) n38 (.int .i64 y1)
      have q4 := blk_far H4.out (p := ⟨p8, 1, none⟩) n48 (.int .i64 y1)
      have q6 := blk_far H6.out (p := ⟨p8, 1, none⟩) n68 (.int .i64 y1)
      have qb := HB.out.setCell (p := ⟨p8, 1, none⟩) g8 (.int .i64 y1)
      go_roundw
      case rel => exact ⟨2, by decide, rfl, ⟨q3⟩, ⟨q4⟩, ⟨q6⟩, ⟨q⟩, ⟨qb⟩⟩
      case measure => decide
     ·
      go_upto_region 5 with fail
      refine start_ (n := 13) (S := fun w' => w'.heap[p3]? = some (.cells #[.int .i64 a0, .int .i64 a1, .int .i64 a2] 26 (0, 0)) ∧ w'.heap[p4]? = some (.cells #[.int .i64 b0, .int .i64 b1, .int .i64 b2] 26 (0, 0))) (ds := []) (flg 13 0) (by kernel_rfl) rfl rfl ⟨H3.out, H4.out⟩ (fun hHeld => ?_)
      replace H3 := am (blk_drew H3.out)
      replace H4 := am (blk_drew H4.out)
      replace H6 := am (blk_drew H6.out)
      replace H8 := am (blk_drew H8.out)
      replace HB := am (below_drew HB.out)
      generalize wr.drew = wd at H3 H4 H6 H8 HB hHeld ⊢
      refine pure_ (i := 0) (N := (some 16)) (v := ?_) (a' := ?_) (flg 13 1) rfl rfl (by kernel_rfl) (fun _ _ _ h => h) (Or.inl ⟨by rfl, ?_⟩) ?_ ?_
      rotate_left
      ·
       intro w'
       go_simp
       with_reducible rfl
      rotate_left
      ·
       simp only [pw]
       rfl
      refine pure_ (i := 1) (N := (some 17)) (v := ?_) (a' := ?_) (flg 13 3) rfl rfl (by kernel_rfl) (fun _ _ _ h => h) (Or.inl ⟨by rfl, ?_⟩) ?_ ?_
      rotate_left
      ·
       intro w'
       go_simp
       with_reducible rfl
      rotate_left
      ·
       simp only [pw]
       rfl
      refine pure_ (i := 2) (N := (some 18)) (v := ?_) (a' := ?_) (flg 13 7) rfl rfl (by kernel_rfl) (fun _ _ _ h => h) (Or.inl ⟨by rfl, ?_⟩) ?_ ?_
      rotate_left
      ·
       intro w'
       go_simp
       with_reducible rfl
      rotate_left
      ·
       simp only [pw]
       rfl
      refine take_ (i := 3) (N := (some 19)) (v := ?_) (a' := ?_) (flg 13 15) rfl rfl (by kernel_rfl) (fun _ _ _ h => h) (Or.inl ⟨by rfl, ?_⟩) hHeld ?_ ?_
      rotate_left
      ·
       rintro w' ⟨s0, s1⟩
       have x := bcv s0 2 (.int .i64 a2) rfl
       go_simp
       with_reducible rfl
      rotate_left
      ·
       simp only [pw]
       rfl
      refine pure_ (i := 4) (N := (some 20)) (v := ?_) (a' := ?_) (flg 13 31) rfl rfl (by kernel_rfl) (fun _ _ _ h => h) (Or.inl ⟨by rfl, ?_⟩) ?_ ?_
      rotate_left
      ·
       intro w'
       go_simp
       with_reducible rfl
      rotate_left
      ·
       simp only [pw]
       rfl
      refine pure_ (i := 5) (N := (some 21)) (v := ?_) (a' := ?_) (flg 13 63) rfl rfl (by kernel_rfl) (fun _ _ _ h => h) (Or.inl ⟨by rfl, ?_⟩) ?_ ?_
      rotate_left
      ·
       intro w'
       go_simp
       with_reducible rfl
      rotate_left
      ·
       simp only [pw]
       rfl
      refine take_ (i := 6) (N := (some 22)) (v := ?_) (a' := ?_) (flg 13 127) rfl rfl (by kernel_rfl) (fun _ _ _ h => h) (Or.inl ⟨by rfl, ?_⟩) hHeld ?_ ?_
      rotate_left
      ·
       rintro w' ⟨s0, s1⟩
       have x := bcv s1 2 (.int .i64 b2) rfl
       go_simp
       with_reducible rfl
      rotate_left
      ·
       simp only [pw]
       rfl
      refine one_ (i := 7) (N := (some 23)) (flg 13 255) rfl rfl (by kernel_rfl) (by decide) (fun K hK => ?_)
      refine goesv_ hc #[.int .i64 a2, .int .i64 b2] (by rfl) rfl rfl (by rfl) (by (try simp only [List.map_toArray, List.map_cons, List.map_nil]); first | done | rfl) ?_
      refine (HD2.out wd (HG.out.below HB.out) (hP _ _ HP.out HB.out)).mono ?_
      rintro e we ⟨rfl, hb⟩
      replace H3 := am (blk_below H3.out hb)
      replace H4 := am (blk_below H4.out hb)
      replace H6 := am (blk_below H6.out hb)
      replace H8 := am (blk_below H8.out hb)
      replace HB := am (below_step HB.out hb)
      clear hb hHeld
      refine ⟨_, rfl, ?_⟩
      refine hK.out _ _ ⟨H3.out, H4.out⟩ (fun hHeld => ?_)
      clear hK K
      refine norm_ (a' := ?_) ?_ ?_
      rotate_left
      ·
       show Act.put _ (some 23) _ = _
       simp only [pw]
       rfl
      refine pure_ (i := 8) (N := (some 15)) (v := ?_) (a' := ?_) (flg 13 511) rfl rfl (by kernel_rfl) (fun _ _ _ h => h) (Or.inl ⟨by rfl, ?_⟩) ?_ ?_
      rotate_left
      ·
       intro w'
       go_simp
       with_reducible rfl
      rotate_left
      ·
       simp only [pw]
       rfl
      refine pure_ (i := 9) (N := (some 24)) (v := ?_) (a' := ?_) (flg 13 1023) rfl rfl (by kernel_rfl) (fun _ _ _ h => h) (Or.inl ⟨by rfl, ?_⟩) ?_ ?_
      rotate_left
      ·
       intro w'
       go_simp
       with_reducible rfl
      rotate_left
      ·
       simp only [pw]
       rfl
      refine pure_ (i := 10) (N := (some 25)) (v := ?_) (a' := ?_) (flg 13 2047) rfl rfl (by kernel_rfl) (fun _ _ _ h => h) (Or.inl ⟨by rfl, ?_⟩) ?_ ?_
      rotate_left
      ·
       intro w'
       go_simp
       with_reducible rfl
      rotate_left
      ·
       simp only [pw]
       rfl
      refine pure_ (i := 11) (N := (some 10)) (v := ?_) (a' := ?_) (flg 13 4095) rfl rfl (by kernel_rfl) (fun _ _ _ h => h) (Or.inl ⟨by rfl, ?_⟩) ?_ ?_
      rotate_left
      ·
       intro w'
       go_simp
       with_reducible rfl
      rotate_left
      ·
       simp only [pw]
       rfl
      refine pure_ (i := 12) (N := (some 11)) (v := ?_) (a' := ?_) (flg 13 8191) rfl rfl (by kernel_rfl) (fun _ _ _ h => h) (Or.inl ⟨by rfl, ?_⟩) ?_ ?_
      rotate_left
      ·
       intro w'
       go_simp
       with_reducible rfl
      rotate_left
      ·
       simp only [pw]
       rfl
      refine done_ (by kernel_rfl) ?_
      have z0 := bcv H6.out 0 (.int .i64 0) rfl
      have z1 := bcv H6.out 1 (.int .i64 0) rfl
      have z2 := bcv H6.out 2 (.int .i64 0) rfl
      have f0 := bfz H6.out 0
      have f1 := bfz H6.out 1
      have f2 := bfz H6.out 2
      go_wp2_with fail
      obtain ⟨q, qb⟩ := three_set rfl H6.out g6 HB.out (.int .i64 0) (.int .i64 0) (.int .i64 0)
      exact bodyPost_ret (results_ct rfl _ _ p6 26 _ (0, 0) _ rfl q Tryz.underlying26 rfl (by kernel_rfl)) rfl ⟨rfl, qb⟩
  ·
   have q1 : (e1 == 0) = false := by simp [h1]
   have q2 : decide (e1 = 0) = false := decide_eq_false h1
   have r : ∀ y, RR 0 e1 e2 y = 0 := fun y => by simp [RR, h1]
   rw [r, r, r, show EE 0 e1 e2 = e1 by simp [EE, h1]]
   clear r
   have HG := am hG
   have HP := am hp
   clear hG hp
   unfold vec
   go_enter Tryz.func129, Tryz.ntmps129
   go_upto_region 2 with fail
   obtain ⟨x3, x4, x6, x8, hB⟩ := blocks4 w #[.int .i64 a0, .int .i64 a1, .int .i64 a2] #[.int .i64 b0, .int .i64 b1, .int .i64 b2] #[.int .i64 0, .int .i64 0, .int .i64 0] #[.int .i64 0, .int .i64 0, .int .i64 0] 26 26 26 26
   generalize (((w.alloc (.cells #[.int .i64 a0, .int .i64 a1, .int .i64 a2] 26)).alloc (.cells #[.int .i64 b0, .int .i64 b1, .int .i64 b2] 26)).alloc (.cells #[.int .i64 0, .int .i64 0, .int .i64 0] 26)).alloc (.cells #[.int .i64 0, .int .i64 0, .int .i64 0] 26) = w1 at x3 x4 x6 x8 hB ⊢
   obtain ⟨p3, h3⟩ : ∃ b, b = w.heap.size := ⟨_, rfl⟩
   obtain ⟨p4, h4⟩ : ∃ b, b = w.heap.size + 1 := ⟨_, rfl⟩
   obtain ⟨p6, h6⟩ : ∃ b, b = w.heap.size + 1 + 1 := ⟨_, rfl⟩
   obtain ⟨p8, h8⟩ : ∃ b, b = w.heap.size + 1 + 1 + 1 := ⟨_, rfl⟩
   have g6 : w.heap.size ≤ p6 := by omega
   have g8 : w.heap.size ≤ p8 := by omega
   have n38 : p3 ≠ p8 := by omega
   have n48 : p4 ≠ p8 := by omega
   have n68 : p6 ≠ p8 := by omega
   rw [← h8, ← h6, ← h4, ← h3]
   rw [← h8] at x8
   rw [← h6] at x6
   rw [← h4] at x4
   rw [← h3] at x3
   have H3 := am x3
   have H4 := am x4
   have H6 := am x6
   have H8 := am (show w1.heap[p8]? = some (.cells (OV y0 y1 y2 0) 26 (0, 0)) from x8)
   have HB := am hB
   clear x3 x4 x6 x8 hB h3 h4 h6 h8
   go_wp2_with fail
   go_loopw [12] (fun v12 wr => ∃ k : Int, (0 ≤ k ∧ k ≤ 1) ∧ v12 = .int .i64 k ∧ Aside0 (wr.heap[p3]? = some (.cells #[.int .i64 a0, .int .i64 a1, .int .i64 a2] 26 (0, 0))) ∧ Aside0 (wr.heap[p4]? = some (.cells #[.int .i64 b0, .int .i64 b1, .int .i64 b2] 26 (0, 0))) ∧ Aside0 (wr.heap[p6]? = some (.cells #[.int .i64 0, .int .i64 0, .int .i64 0] 26 (0, 0))) ∧ Aside0 (wr.heap[p8]? = some (.cells (OV y0 y1 y2 k) 26 (0, 0))) ∧ Aside0 (Below w.heap.size w wr)) (fun v12 _ => 4 - (intOf v12).toNat)
   case atStart => exact ⟨0, by decide, rfl, H3, H4, H6, H8, HB⟩
   case round =>
    clear H3 H4 H6 H8 HB
    obtain ⟨k, hk, rfl, H3, H4, H6, H8, HB⟩ := hrel
    have hk4 : k = 0 ∨ k = 1 := by omega
    clear hk
    rcases hk4 with rfl | rfl
    ·
     go_upto_region 5 with fail
     refine start_ (n := 13) (S := fun w' => w'.heap[p3]? = some (.cells #[.int .i64 a0, .int .i64 a1, .int .i64 a2] 26 (0, 0)) ∧ w'.heap[p4]? = some (.cells #[.int .i64 b0, .int .i64 b1, .int .i64 b2] 26 (0, 0))) (ds := []) (flg 13 0) (by kernel_rfl) rfl rfl ⟨H3.out, H4.out⟩ (fun hHeld => ?_)
     replace H3 := am (blk_drew H3.out)
     replace H4 := am (blk_drew H4.out)
     replace H6 := am (blk_drew H6.out)
     replace H8 := am (blk_drew H8.out)
     replace HB := am (below_drew HB.out)
     generalize wr.drew = wd at H3 H4 H6 H8 HB hHeld ⊢
     refine pure_ (i := 0) (N := (some 16)) (v := ?_) (a' := ?_) (flg 13 1) rfl rfl (by kernel_rfl) (fun _ _ _ h => h) (Or.inl ⟨by rfl, ?_⟩) ?_ ?_
     rotate_left
     ·
      intro w'
      go_simp
      with_reducible rfl
     rotate_left
     ·
      simp only [pw]
      rfl
     refine pure_ (i := 1) (N := (some 17)) (v := ?_) (a' := ?_) (flg 13 3) rfl rfl (by kernel_rfl) (fun _ _ _ h => h) (Or.inl ⟨by rfl, ?_⟩) ?_ ?_
     rotate_left
     ·
      intro w'
      go_simp
      with_reducible rfl
     rotate_left
     ·
      simp only [pw]
      rfl
     refine pure_ (i := 2) (N := (some 18)) (v := ?_) (a' := ?_) (flg 13 7) rfl rfl (by kernel_rfl) (fun _ _ _ h => h) (Or.inl ⟨by rfl, ?_⟩) ?_ ?_
     rotate_left
     ·
      intro w'
      go_simp
      with_reducible rfl
     rotate_left
     ·
      simp only [pw]
      rfl
     refine take_ (i := 3) (N := (some 19)) (v := ?_) (a' := ?_) (flg 13 15) rfl rfl (by kernel_rfl) (fun _ _ _ h => h) (Or.inl ⟨by rfl, ?_⟩) hHeld ?_ ?_
     rotate_left
     ·
      rintro w' ⟨s0, s1⟩
      have x := bcv s0 0 (.int .i64 a0) rfl
      go_simp
      with_reducible rfl
     rotate_left
     ·
      simp only [pw]
      rfl
     refine pure_ (i := 4) (N := (some 20)) (v := ?_) (a' := ?_) (flg 13 31) rfl rfl (by kernel_rfl) (fun _ _ _ h => h) (Or.inl ⟨by rfl, ?_⟩) ?_ ?_
     rotate_left
     ·
      intro w'
      go_simp
      with_reducible rfl
     rotate_left
     ·
      simp only [pw]
      rfl
     refine pure_ (i := 5) (N := (some 21)) (v := ?_) (a' := ?_) (flg 13 63) rfl rfl (by kernel_rfl) (fun _ _ _ h => h) (Or.inl ⟨by rfl, ?_⟩) ?_ ?_
     rotate_left
     ·
      intro w'
      go_simp
      with_reducible rfl
     rotate_left
     ·
      simp only [pw]
      rfl
     refine take_ (i := 6) (N := (some 22)) (v := ?_) (a' := ?_) (flg 13 127) rfl rfl (by kernel_rfl) (fun _ _ _ h => h) (Or.inl ⟨by rfl, ?_⟩) hHeld ?_ ?_
     rotate_left
     ·
      rintro w' ⟨s0, s1⟩
      have x := bcv s1 0 (.int .i64 b0) rfl
      go_simp
      with_reducible rfl
     rotate_left
     ·
      simp only [pw]
      rfl
     refine one_ (i := 7) (N := (some 23)) (flg 13 255) rfl rfl (by kernel_rfl) (by decide) (fun K hK => ?_)
     refine goesv_ hc #[.int .i64 a0, .int .i64 b0] (by rfl) rfl rfl (by rfl) (by (try simp only [List.map_toArray, List.map_cons, List.map_nil]); first | done | rfl) ?_
     refine (HD0.out wd (HG.out.below HB.out) (hP _ _ HP.out HB.out)).mono ?_
     rintro e we ⟨rfl, hb⟩
     replace H3 := am (blk_below H3.out hb)
     replace H4 := am (blk_below H4.out hb)
     replace H6 := am (blk_below H6.out hb)
     replace H8 := am (blk_below H8.out hb)
     replace HB := am (below_step HB.out hb)
     clear hb hHeld
     refine ⟨_, rfl, ?_⟩
     refine hK.out _ _ ⟨H3.out, H4.out⟩ (fun hHeld => ?_)
     clear hK K
     refine norm_ (a' := ?_) ?_ ?_
     rotate_left
     ·
      show Act.put _ (some 23) _ = _
      simp only [pw]
      rfl
     refine pure_ (i := 8) (N := (some 15)) (v := ?_) (a' := ?_) (flg 13 511) rfl rfl (by kernel_rfl) (fun _ _ _ h => h) (Or.inl ⟨by rfl, ?_⟩) ?_ ?_
     rotate_left
     ·
      intro w'
      go_simp
      with_reducible rfl
     rotate_left
     ·
      simp only [pw]
      rfl
     refine pure_ (i := 9) (N := (some 24)) (v := ?_) (a' := ?_) (flg 13 1023) rfl rfl (by kernel_rfl) (fun _ _ _ h => h) (Or.inl ⟨by rfl, ?_⟩) ?_ ?_
     rotate_left
     ·
      intro w'
      go_simp
      with_reducible rfl
     rotate_left
     ·
      simp only [pw]
      rfl
     refine pure_ (i := 10) (N := (some 25)) (v := ?_) (a' := ?_) (flg 13 2047) rfl rfl (by kernel_rfl) (fun _ _ _ h => h) (Or.inl ⟨by rfl, ?_⟩) ?_ ?_
     rotate_left
     ·
      intro w'
      go_simp
      with_reducible rfl
     rotate_left
     ·
      simp only [pw]
      rfl
     refine pure_ (i := 11) (N := (some 10)) (v := ?_) (a' := ?_) (flg 13 4095) rfl rfl (by kernel_rfl) (fun _ _ _ h => h) (Or.inl ⟨by rfl, ?_⟩) ?_ ?_
     rotate_left
     ·
      intro w'
      go_simp
      with_reducible rfl
     rotate_left
     ·
      simp only [pw]
      rfl
     refine pure_ (i := 12) (N := (some 11)) (v := ?_) (a' := ?_) (flg 13 8191) rfl rfl (by kernel_rfl) (fun _ _ _ h => h) (Or.inl ⟨by rfl, ?_⟩) ?_ ?_
     rotate_left
     ·
      intro w'
      go_simp
      with_reducible rfl
     rotate_left
     ·
      simp only [pw]
      rfl
     refine done_ (by kernel_rfl) ?_
     have z := bcv H8.out 0 (.int .i64 0) rfl
     have f := bfz H8.out 0
     go_wp2_with fail
     have q := (blk_set H8.out 0 (.int .i64 y0)).trans (show _ = some (Obj.cells (OV y0 y1 y2 1) 26 (0, 0)) by kernel_rfl)
     have q3 := blk_far H3.out (p := ⟨p8, 0, none⟩) n38 (.int .i64 y0)
     have q4 := blk_far H4.out (p := ⟨p8, 0, none⟩) n48 (.int .i64 y0)
     have q6 := blk_far H6.out (p := ⟨p8, 0, none⟩) n68 (.int .i64 y0)
     have qb := HB.out.setCell (p := ⟨p8, 0, none⟩) g8 (.int .i64 y0)
     go_roundw
     case rel => exact ⟨1, by decide, rfl, ⟨q3⟩, ⟨q4⟩, ⟨q6⟩, ⟨q⟩, ⟨qb⟩⟩
     case measure => decide
    ·
     go_upto_region 5 with fail
     refine start_ (n := 13) (S := fun w' => w'.heap[p3]? = some (.cells #[.int .i64 a0, .int .i64 a1, .int .i64 a2] 26 (0, 0)) ∧ w'.heap[p4]? = some (.cells #[.int .i64 b0, .int .i64 b1, .int .i64 b2] 26 (0, 0))) (ds := []) (flg 13 0) (by kernel_rfl) rfl rfl ⟨H3.out, H4.out⟩ (fun hHeld => ?_)
     replace H3 := am (blk_drew H3.out)
     replace H4 := am (blk_drew H4.out)
     replace H6 := am (blk_drew H6.out)
     replace H8 := am (blk_drew H8.out)
     replace HB := am (below_drew HB.out)
     generalize wr.drew = wd at H3 H4 H6 H8 HB hHeld ⊢
     refine pure_ (i := 0) (N := (some 16)) (v := ?_) (a' := ?_) (flg 13 1) rfl rfl (by kernel_rfl) (fun _ _ _ h => h) (Or.inl ⟨by rfl, ?_⟩) ?_ ?_
     rotate_left
     ·
      intro w'
      go_simp
      with_reducible rfl
     rotate_left
     ·
      simp only [pw]
      rfl
     refine pure_ (i := 1) (N := (some 17)) (v := ?_) (a' := ?_) (flg 13 3) rfl rfl (by kernel_rfl) (fun _ _ _ h => h) (Or.inl ⟨by rfl, ?_⟩) ?_ ?_
     rotate_left
     ·
      intro w'
      go_simp
      with_reducible rfl
     rotate_left
     ·
      simp only [pw]
      rfl
     refine pure_ (i := 2) (N := (some 18)) (v := ?_) (a' := ?_) (flg 13 7) rfl rfl (by kernel_rfl) (fun _ _ _ h => h) (Or.inl ⟨by rfl, ?_⟩) ?_ ?_
     rotate_left
     ·
      intro w'
      go_simp
      with_reducible rfl
     rotate_left
     ·
      simp only [pw]
      rfl
     refine take_ (i := 3) (N := (some 19)) (v := ?_) (a' := ?_) (flg 13 15) rfl rfl (by kernel_rfl) (fun _ _ _ h => h) (Or.inl ⟨by rfl, ?_⟩) hHeld ?_ ?_
     rotate_left
     ·
      rintro w' ⟨s0, s1⟩
      have x := bcv s0 1 (.int .i64 a1) rfl
      go_simp
      with_reducible rfl
     rotate_left
     ·
      simp only [pw]
      rfl
     refine pure_ (i := 4) (N := (some 20)) (v := ?_) (a' := ?_) (flg 13 31) rfl rfl (by kernel_rfl) (fun _ _ _ h => h) (Or.inl ⟨by rfl, ?_⟩) ?_ ?_
     rotate_left
     ·
      intro w'
      go_simp
      with_reducible rfl
     rotate_left
     ·
      simp only [pw]
      rfl
     refine pure_ (i := 5) (N := (some 21)) (v := ?_) (a' := ?_) (flg 13 63) rfl rfl (by kernel_rfl) (fun _ _ _ h => h) (Or.inl ⟨by rfl, ?_⟩) ?_ ?_
     rotate_left
     ·
      intro w'
      go_simp
      with_reducible rfl
     rotate_left
     ·
      simp only [pw]
      rfl
     refine take_ (i := 6) (N := (some 22)) (v := ?_) (a' := ?_) (flg 13 127) rfl rfl (by kernel_rfl) (fun _ _ _ h => h) (Or.inl ⟨by rfl, ?_⟩) hHeld ?_ ?_
     rotate_left
     ·
      rintro w' ⟨s0, s1⟩
      have x := bcv s1 1 (.int .i64 b1) rfl
      go_simp
      with_reducible rfl
     rotate_left
     ·
      simp only [pw]
      rfl
     refine one_ (i := 7) (N := (some 23)) (flg 13 255) rfl rfl (by kernel_rfl) (by decide) (fun K hK => ?_)
     refine goesv_ hc #[.int .i64 a1, .int .i64 b1] (by rfl) rfl rfl (by rfl) (by (try simp only [List.map_toArray, List.map_cons, List.map_nil]); first | done | rfl) ?_
     refine (HD1.out wd (HG.out.below HB.out) (hP _ _ HP.out HB.out)).mono ?_
     rintro e we ⟨rfl, hb⟩
     replace H3 := am (blk_below H3.out hb)
     replace H4 := am (blk_below H4.out hb)
     replace H6 := am (blk_below H6.out hb)
     replace H8 := am (blk_below H8.out hb)
     replace HB := am (below_step HB.out hb)
     clear hb hHeld
     refine ⟨_, rfl, ?_⟩
     refine hK.out _ _ ⟨H3.out, H4.out⟩ (fun hHeld => ?_)
     clear hK K
     refine norm_ (a' := ?_) ?_ ?_
     rotate_left
     ·
      show Act.put _ (some 23) _ = _
      simp only [pw]
      rfl
     refine pure_ (i := 8) (N := (some 15)) (v := ?_) (a' := ?_) (flg 13 511) rfl rfl (by kernel_rfl) (fun _ _ _ h => h) (Or.inl ⟨by rfl, ?_⟩) ?_ ?_
     rotate_left
     ·
      intro w'
      go_simp
      with_reducible rfl
     rotate_left
     ·
      simp only [pw]
      rfl
     refine pure_ (i := 9) (N := (some 24)) (v := ?_) (a' := ?_) (flg 13 1023) rfl rfl (by kernel_rfl) (fun _ _ _ h => h) (Or.inl ⟨by rfl, ?_⟩) ?_ ?_
     rotate_left
     ·
      intro w'
      go_simp
      with_reducible rfl
     rotate_left
     ·
      simp only [pw]
      rfl
     refine pure_ (i := 10) (N := (some 25)) (v := ?_) (a' := ?_) (flg 13 2047) rfl rfl (by kernel_rfl) (fun _ _ _ h => h) (Or.inl ⟨by rfl, ?_⟩) ?_ ?_
     rotate_left
     ·
      intro w'
      go_simp
      with_reducible rfl
     rotate_left
     ·
      simp only [pw]
      rfl
     refine pure_ (i := 11) (N := (some 10)) (v := ?_) (a' := ?_) (flg 13 4095) rfl rfl (by kernel_rfl) (fun _ _ _ h => h) (Or.inl ⟨by rfl, ?_⟩) ?_ ?_
     rotate_left
     ·
      intro w'
      go_simp
      with_reducible rfl
     rotate_left
     ·
      simp only [pw]
      rfl
     refine pure_ (i := 12) (N := (some 11)) (v := ?_) (a' := ?_) (flg 13 8191) rfl rfl (by kernel_rfl) (fun _ _ _ h => h) (Or.inl ⟨by rfl, ?_⟩) ?_ ?_
     rotate_left
     ·
      intro w'
      go_simp
      with_reducible rfl
     rotate_left
     ·
      simp only [pw]
      rfl
     refine done_ (by kernel_rfl) ?_
     have z0 := bcv H6.out 0 (.int .i64 0) rfl
     have z1 := bcv H6.out 1 (.int .i64 0) rfl
     have z2 := bcv H6.out 2 (.int .i64 0) rfl
     have f0 := bfz H6.out 0
     have f1 := bfz H6.out 1
     have f2 := bfz H6.out 2
     go_wp2_with fail
     obtain ⟨q, qb⟩ := three_set rfl H6.out g6 HB.out (.int .i64 0) (.int .i64 0) (.int .i64 0)
     exact bodyPost_ret (results_ct rfl _ _ p6 26 _ (0, 0) _ rfl q Tryz.underlying26 rfl (by kernel_rfl)) rfl ⟨rfl, qb⟩
 ·
  have q1 : (e0 == 0) = false := by simp [h0]
  have q2 : decide (e0 = 0) = false := decide_eq_false h0
  have r : ∀ y, RR e0 e1 e2 y = 0 := fun y => by simp [RR, h0]
  rw [r, r, r, show EE e0 e1 e2 = e0 by simp [EE, h0]]
  clear r
  have HG := am hG
  have HP := am hp
  clear hG hp
  unfold vec
  go_enter Tryz.func129, Tryz.ntmps129
  go_upto_region 2 with fail
  obtain ⟨x3, x4, x6, x8, hB⟩ := blocks4 w #[.int .i64 a0, .int .i64 a1, .int .i64 a2] #[.int .i64 b0, .int .i64 b1, .int .i64 b2] #[.int .i64 0, .int .i64 0, .int .i64 0] #[.int .i64 0, .int .i64 0, .int .i64 0] 26 26 26 26
  generalize (((w.alloc (.cells #[.int .i64 a0, .int .i64 a1, .int .i64 a2] 26)).alloc (.cells #[.int .i64 b0, .int .i64 b1, .int .i64 b2] 26)).alloc (.cells #[.int .i64 0, .int .i64 0, .int .i64 0] 26)).alloc (.cells #[.int .i64 0, .int .i64 0, .int .i64 0] 26) = w1 at x3 x4 x6 x8 hB ⊢
  obtain ⟨p3, h3⟩ : ∃ b, b = w.heap.size := ⟨_, rfl⟩
  obtain ⟨p4, h4⟩ : ∃ b, b = w.heap.size + 1 := ⟨_, rfl⟩
  obtain ⟨p6, h6⟩ : ∃ b, b = w.heap.size + 1 + 1 := ⟨_, rfl⟩
  obtain ⟨p8, h8⟩ : ∃ b, b = w.heap.size + 1 + 1 + 1 := ⟨_, rfl⟩
  have g6 : w.heap.size ≤ p6 := by omega
  have g8 : w.heap.size ≤ p8 := by omega
  have n38 : p3 ≠ p8 := by omega
  have n48 : p4 ≠ p8 := by omega
  have n68 : p6 ≠ p8 := by omega
  rw [← h8, ← h6, ← h4, ← h3]
  rw [← h8] at x8
  rw [← h6] at x6
  rw [← h4] at x4
  rw [← h3] at x3
  have H3 := am x3
  have H4 := am x4
  have H6 := am x6
  have H8 := am (show w1.heap[p8]? = some (.cells (OV y0 y1 y2 0) 26 (0, 0)) from x8)
  have HB := am hB
  clear x3 x4 x6 x8 hB h3 h4 h6 h8
  go_wp2_with fail
  go_loopw [12] (fun v12 wr => ∃ k : Int, (0 ≤ k ∧ k ≤ 0) ∧ v12 = .int .i64 k ∧ Aside0 (wr.heap[p3]? = some (.cells #[.int .i64 a0, .int .i64 a1, .int .i64 a2] 26 (0, 0))) ∧ Aside0 (wr.heap[p4]? = some (.cells #[.int .i64 b0, .int .i64 b1, .int .i64 b2] 26 (0, 0))) ∧ Aside0 (wr.heap[p6]? = some (.cells #[.int .i64 0, .int .i64 0, .int .i64 0] 26 (0, 0))) ∧ Aside0 (wr.heap[p8]? = some (.cells (OV y0 y1 y2 k) 26 (0, 0))) ∧ Aside0 (Below w.heap.size w wr)) (fun v12 _ => 4 - (intOf v12).toNat)
  case atStart => exact ⟨0, by decide, rfl, H3, H4, H6, H8, HB⟩
  case round =>
   clear H3 H4 H6 H8 HB
   obtain ⟨k, hk, rfl, H3, H4, H6, H8, HB⟩ := hrel
   have hk4 : k = 0 := by omega
   clear hk
   obtain rfl := hk4
   ·
    go_upto_region 5 with fail
    refine start_ (n := 13) (S := fun w' => w'.heap[p3]? = some (.cells #[.int .i64 a0, .int .i64 a1, .int .i64 a2] 26 (0, 0)) ∧ w'.heap[p4]? = some (.cells #[.int .i64 b0, .int .i64 b1, .int .i64 b2] 26 (0, 0))) (ds := []) (flg 13 0) (by kernel_rfl) rfl rfl ⟨H3.out, H4.out⟩ (fun hHeld => ?_)
    replace H3 := am (blk_drew H3.out)
    replace H4 := am (blk_drew H4.out)
    replace H6 := am (blk_drew H6.out)
    replace H8 := am (blk_drew H8.out)
    replace HB := am (below_drew HB.out)
    generalize wr.drew = wd at H3 H4 H6 H8 HB hHeld ⊢
    refine pure_ (i := 0) (N := (some 16)) (v := ?_) (a' := ?_) (flg 13 1) rfl rfl (by kernel_rfl) (fun _ _ _ h => h) (Or.inl ⟨by rfl, ?_⟩) ?_ ?_
    rotate_left
    ·
     intro w'
     go_simp
     with_reducible rfl
    rotate_left
    ·
     simp only [pw]
     rfl
    refine pure_ (i := 1) (N := (some 17)) (v := ?_) (a' := ?_) (flg 13 3) rfl rfl (by kernel_rfl) (fun _ _ _ h => h) (Or.inl ⟨by rfl, ?_⟩) ?_ ?_
    rotate_left
    ·
     intro w'
     go_simp
     with_reducible rfl
    rotate_left
    ·
     simp only [pw]
     rfl
    refine pure_ (i := 2) (N := (some 18)) (v := ?_) (a' := ?_) (flg 13 7) rfl rfl (by kernel_rfl) (fun _ _ _ h => h) (Or.inl ⟨by rfl, ?_⟩) ?_ ?_
    rotate_left
    ·
     intro w'
     go_simp
     with_reducible rfl
    rotate_left
    ·
     simp only [pw]
     rfl
    refine take_ (i := 3) (N := (some 19)) (v := ?_) (a' := ?_) (flg 13 15) rfl rfl (by kernel_rfl) (fun _ _ _ h => h) (Or.inl ⟨by rfl, ?_⟩) hHeld ?_ ?_
    rotate_left
    ·
     rintro w' ⟨s0, s1⟩
     have x := bcv s0 0 (.int .i64 a0) rfl
     go_simp
     with_reducible rfl
    rotate_left
    ·
     simp only [pw]
     rfl
    refine pure_ (i := 4) (N := (some 20)) (v := ?_) (a' := ?_) (flg 13 31) rfl rfl (by kernel_rfl) (fun _ _ _ h => h) (Or.inl ⟨by rfl, ?_⟩) ?_ ?_
    rotate_left
    ·
     intro w'
     go_simp
     with_reducible rfl
    rotate_left
    ·
     simp only [pw]
     rfl
    refine pure_ (i := 5) (N := (some 21)) (v := ?_) (a' := ?_) (flg 13 63) rfl rfl (by kernel_rfl) (fun _ _ _ h => h) (Or.inl ⟨by rfl, ?_⟩) ?_ ?_
    rotate_left
    ·
     intro w'
     go_simp
     with_reducible rfl
    rotate_left
    ·
     simp only [pw]
     rfl
    refine take_ (i := 6) (N := (some 22)) (v := ?_) (a' := ?_) (flg 13 127) rfl rfl (by kernel_rfl) (fun _ _ _ h => h) (Or.inl ⟨by rfl, ?_⟩) hHeld ?_ ?_
    rotate_left
    ·
     rintro w' ⟨s0, s1⟩
     have x := bcv s1 0 (.int .i64 b0) rfl
     go_simp
     with_reducible rfl
    rotate_left
    ·
     simp only [pw]
     rfl
    refine one_ (i := 7) (N := (some 23)) (flg 13 255) rfl rfl (by kernel_rfl) (by decide) (fun K hK => ?_)
    refine goesv_ hc #[.int .i64 a0, .int .i64 b0] (by rfl) rfl rfl (by rfl) (by (try simp only [List.map_toArray, List.map_cons, List.map_nil]); first | done | rfl) ?_
    refine (HD0.out wd (HG.out.below HB.out) (hP _ _ HP.out HB.out)).mono ?_
    rintro e we ⟨rfl, hb⟩
    replace H3 := am (blk_below H3.out hb)
    replace H4 := am (blk_below H4.out hb)
    replace H6 := am (blk_below H6.out hb)
    replace H8 := am (blk_below H8.out hb)
    replace HB := am (below_step HB.out hb)
    clear hb hHeld
    refine ⟨_, rfl, ?_⟩
    refine hK.out _ _ ⟨H3.out, H4.out⟩ (fun hHeld => ?_)
    clear hK K
    refine norm_ (a' := ?_) ?_ ?_
    rotate_left
    ·
     show Act.put _ (some 23) _ = _
     simp only [pw]
     rfl
    refine pure_ (i := 8) (N := (some 15)) (v := ?_) (a' := ?_) (flg 13 511) rfl rfl (by kernel_rfl) (fun _ _ _ h => h) (Or.inl ⟨by rfl, ?_⟩) ?_ ?_
    rotate_left
    ·
     intro w'
     go_simp
     with_reducible rfl
    rotate_left
    ·
     simp only [pw]
     rfl
    refine pure_ (i := 9) (N := (some 24)) (v := ?_) (a' := ?_) (flg 13 1023) rfl rfl (by kernel_rfl) (fun _ _ _ h => h) (Or.inl ⟨by rfl, ?_⟩) ?_ ?_
    rotate_left
    ·
     intro w'
     go_simp
     with_reducible rfl
    rotate_left
    ·
     simp only [pw]
     rfl
    refine pure_ (i := 10) (N := (some 25)) (v := ?_) (a' := ?_) (flg 13 2047) rfl rfl (by kernel_rfl) (fun _ _ _ h => h) (Or.inl ⟨by rfl, ?_⟩) ?_ ?_
    rotate_left
    ·
     intro w'
     go_simp
     with_reducible rfl
    rotate_left
    ·
     simp only [pw]
     rfl
    refine pure_ (i := 11) (N := (some 10)) (v := ?_) (a' := ?_) (flg 13 4095) rfl rfl (by kernel_rfl) (fun _ _ _ h => h) (Or.inl ⟨by rfl, ?_⟩) ?_ ?_
    rotate_left
    ·
     intro w'
     go_simp
     with_reducible rfl
    rotate_left
    ·
     simp only [pw]
     rfl
    refine pure_ (i := 12) (N := (some 11)) (v := ?_) (a' := ?_) (flg 13 8191) rfl rfl (by kernel_rfl) (fun _ _ _ h => h) (Or.inl ⟨by rfl, ?_⟩) ?_ ?_
    rotate_left
    ·
     intro w'
     go_simp
     with_reducible rfl
    rotate_left
    ·
     simp only [pw]
     rfl
    refine done_ (by kernel_rfl) ?_
    have z0 := bcv H6.out 0 (.int .i64 0) rfl
    have z1 := bcv H6.out 1 (.int .i64 0) rfl
    have z2 := bcv H6.out 2 (.int .i64 0) rfl
    have f0 := bfz H6.out 0
    have f1 := bfz H6.out 1
    have f2 := bfz H6.out 2
    go_wp2_with fail
    obtain ⟨q, qb⟩ := three_set rfl H6.out g6 HB.out (.int .i64 0) (.int .i64 0) (.int .i64 0)
    exact bodyPost_ret (results_ct rfl _ _ p6 26 _ (0, 0) _ rfl q Tryz.underlying26 rfl (by kernel_rfl)) rfl ⟨rfl, qb⟩
end Go.Proofs.YtpdahkgandaabaaGreatDoor.Ch
