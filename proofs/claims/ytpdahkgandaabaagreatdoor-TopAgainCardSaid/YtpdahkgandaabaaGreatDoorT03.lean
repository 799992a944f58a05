/- A part of the proof of TopAgain, where the package's tables hold what their initialisers lay. -/
import Derived.Deep.Cut
import Derived.Deep.CutRange
import Derived.Test.YtpdahkgandaabaaGreatDoorT01
import Derived.Test.YtpdahkgandaabaaGreatDoorT02
namespace Go.Proofs.YtpdahkgandaabaaGreatDoor.Ch
open Go.RowKit Go.Proofs.YtpdahkgandaabaaGreatDoorW.PrintWords Go.Proofs.YtpdahkgandaabaaGreatDoorW.PrintLast Go.Proofs.YtpdahkgandaabaaGreatDoorW.PrintMore Go.Proofs.YtpdahkgandaabaaGreatDoor.PTopNames
set_option linter.unusedVariables false
set_option linter.unusedSimpArgs false
structure Cf where
 (q0 q1 q2 l0 l1 l2 r rg s0 s1 s2 f0 f1 f2 c0 c1 c2 b0 b1 b2 g t0 t1 t2 sc rest clip hold coast out band : Int)
def Cf.v (c : Cf) : Array Value := #[.int .i64 c.q0, .int .i64 c.q1, .int .i64 c.q2, .int .i64 c.l0, .int .i64 c.l1, .int .i64 c.l2, .int .i64 c.r, .int .i64 c.rg, .int .i64 c.s0, .int .i64 c.s1, .int .i64 c.s2, .int .i64 c.f0, .int .i64 c.f1, .int .i64 c.f2, .int .i64 c.c0, .int .i64 c.c1, .int .i64 c.c2, .int .i64 c.b0, .int .i64 c.b1, .int .i64 c.b2, .int .i64 c.g, .int .i64 c.t0, .int .i64 c.t1, .int .i64 c.t2, .int .i64 c.sc, .int .i64 c.rest, .int .i64 c.clip, .int .i64 c.hold, .int .i64 c.coast, .int .i64 c.out, .int .i64 c.band]
theorem mk_func : ∀ (fn : Fn) (first cap : Array Value) (w : World), (Instr.makeFunc fn first cap).run Tryz.prog w = .ok (.func fn first cap) w := fun _ _ _ _ => rfl
def within (x lo hi : Int) : Bool := decide (lo ≤ x) && decide (x ≤ hi)
def fits (x : Int) : Bool := decide (-288230376151711744 ≤ x) && decide (x ≤ 288230376151711744)
set_option maxRecDepth 100000 in
set_option maxHeartbeats 4000000 in
theorem within_any (w : World) (x lo hi : Int) : Calls Tryz.prog 42 #[x, lo, hi] w fun e w' => e = .returned (.bool (within x lo hi)) ∧ w' = w := by
 unfold within
 by_cases h : lo ≤ x
 ·
  have h1 : decide (lo ≤ x) = true := decide_eq_true h
  go_enter Tryz.func42, Tryz.ntmps42
  go_wp2
  go_ret
  exact ⟨by simp [h], rfl⟩
 have h1 : decide (lo ≤ x) = false := decide_eq_false h
 go_enter Tryz.func42, Tryz.ntmps42
 go_wp2
 go_ret
 exact ⟨by simp [h], rfl⟩
set_option maxRecDepth 100000 in
set_option maxHeartbeats 4000000 in
theorem fits_any (w : World) (x : Int) : Calls Tryz.prog 90 #[x] w fun e w' => e = .returned (.bool (fits x)) ∧ w' = w := by
 unfold fits
 by_cases h : -288230376151711744 ≤ x
 ·
  have h1 : decide (-288230376151711744 ≤ x) = true := decide_eq_true h
  go_enter Tryz.func90, Tryz.ntmps90
  go_wp2
  go_ret
  exact ⟨by simp [h], rfl⟩
 have h1 : decide (-288230376151711744 ≤ x) = false := decide_eq_false h
 go_enter Tryz.func90, Tryz.ntmps90
 go_wp2
 go_ret
 exact ⟨by simp [h], rfl⟩
theorem below_same {w w' : World} (h : w' = w) : Below w.heap.size w w' := h ▸ Below.refl _ _
set_option maxRecDepth 100000 in
set_option maxHeartbeats 4000000 in
theorem all_any (w : World) (n : Nat) (caps : Array Value) (x0 x1 x2 : Int) (b0 b1 b2 : Bool) (hc : ∀ args w, (callFunc n args).run Tryz.prog w = .ok (.enter n args) w)
  (h0 : ∀ w', Below w.heap.size w w' → Calls Tryz.prog n (#[.int .i64 0, .int .i64 x0] ++ caps) w' fun e w'' => e = .returned (.bool b0) ∧ Below w'.heap.size w' w'')
  (h1 : ∀ w', Below w.heap.size w w' → Calls Tryz.prog n (#[.int .i64 1, .int .i64 x1] ++ caps) w' fun e w'' => e = .returned (.bool b1) ∧ Below w'.heap.size w' w'')
  (h2 : ∀ w', Below w.heap.size w w' → Calls Tryz.prog n (#[.int .i64 2, .int .i64 x2] ++ caps) w' fun e w'' => e = .returned (.bool b2) ∧ Below w'.heap.size w' w'') :
  Calls Tryz.prog 40 #[.agg #[x0, x1, x2], .func (.func n) #[] caps] w fun e w' => e = .returned (.bool (b0 && (b1 && b2))) ∧ Below w.heap.size w w' := by
 have H0 := am h0
 have H1 := am h1
 have H2 := am h2
 clear h0 h1 h2
 have i0 : ∀ w, (Instr.index 26 (.agg #[x0, x1, x2]) (.int .i64 0)).run Tryz.prog w = .ok (.int .i64 x0) w := fun _ => by kernel_rfl
 have i1 : ∀ w, (Instr.index 26 (.agg #[x0, x1, x2]) (.int .i64 1)).run Tryz.prog w = .ok (.int .i64 x1) w := fun _ => by kernel_rfl
 have i2 : ∀ w, (Instr.index 26 (.agg #[x0, x1, x2]) (.int .i64 2)).run Tryz.prog w = .ok (.int .i64 x2) w := fun _ => by kernel_rfl
 go_enter Tryz.func40, Tryz.ntmps40
 go_wp2_with fail
 have HB := am (below_alloc (Below.refl w.heap.size w) (.cells #[x0, x1, x2] 26))
 generalize w.alloc (.cells #[x0, x1, x2] 26) = w1 at HB ⊢
 go_loopw [8] (fun v8 wr => ∃ k : Int, (0 ≤ k ∧ k ≤ 3) ∧ v8 = .int .i64 k ∧ Aside0 (Below w.heap.size w wr) ∧ Aside0 ((1 ≤ k → b0 = true) ∧ (2 ≤ k → b1 = true) ∧ (3 ≤ k → b2 = true))) (fun v8 _ => 4 - (intOf v8).toNat)
 case atStart => exact ⟨0, by omega, rfl, HB, ⟨by omega, by omega, by omega⟩⟩
 case round =>
  clear HB
  obtain ⟨k, hk, rfl, HB, HK⟩ := hrel
  have hk4 : k = 0 ∨ k = 1 ∨ k = 2 ∨ k = 3 := by omega
  clear hk
  rcases hk4 with rfl | rfl | rfl | rfl
  ·
   go_wp2_with fail
   refine (H0.out wr HB.out).mono ?_
   rintro e w2 ⟨rfl, hb⟩
   replace HB := b_s HB hb
   clear hb HK
   cases b0 with
   | true =>
    go_wp2_with fail
    go_roundw
    case rel => exact ⟨1, by decide, rfl, HB, ⟨by simp, by simp, by simp⟩⟩
    case measure => decide
   | false =>
    go_wp2_with fail
    go_ret
    exact ⟨rfl, HB.out⟩
  ·
   go_wp2_with fail
   refine (H1.out wr HB.out).mono ?_
   rintro e w2 ⟨rfl, hb⟩
   replace HB := b_s HB hb
   have hb0 := HK.out.1 (by decide)
   subst hb0
   clear hb HK
   cases b1 with
   | true =>
    go_wp2_with fail
    go_roundw
    case rel => exact ⟨2, by decide, rfl, HB, ⟨by simp, by simp, by simp⟩⟩
    case measure => decide
   | false =>
    go_wp2_with fail
    go_ret
    exact ⟨rfl, HB.out⟩
  ·
   go_wp2_with fail
   refine (H2.out wr HB.out).mono ?_
   rintro e w2 ⟨rfl, hb⟩
   replace HB := b_s HB hb
   have hb0 := HK.out.1 (by decide)
   have hb1 := HK.out.2.1 (by decide)
   subst hb0
   subst hb1
   clear hb HK
   cases b2 with
   | true =>
    go_wp2_with fail
    go_roundw
    case rel => exact ⟨3, by decide, rfl, HB, ⟨by simp, by simp, by simp⟩⟩
    case measure => decide
   | false =>
    go_wp2_with fail
    go_ret
    exact ⟨rfl, HB.out⟩
  have hb0 := HK.out.1 (by decide)
  have hb1 := HK.out.2.1 (by decide)
  have hb2 := HK.out.2.2 (by decide)
  subst hb0
  subst hb1
  subst hb2
  go_wp2_with fail
  go_ret
  exact ⟨rfl, HB.out⟩
set_option maxRecDepth 100000 in
set_option maxHeartbeats 4000000 in
theorem r41 (w : World) (i x : Int) : Calls Tryz.prog 41 #[i, x] w fun e w' => e = .returned (.bool (within x 0 1125899906842624)) ∧ w' = w := by
 go_enter Tryz.func41, Tryz.ntmps41
 go_wp2_with fail
 refine (within_any _ _ _ _).mono ?_
 rintro e w1 ⟨rfl, rfl⟩
 go_wp2_with fail
 go_ret
 exact ⟨rfl, rfl⟩
set_option maxRecDepth 100000 in
set_option maxHeartbeats 4000000 in
theorem r49 (w : World) (i x : Int) : Calls Tryz.prog 49 #[i, x] w fun e w' => e = .returned (.bool (decide (x ≤ 72057594037927936))) ∧ w' = w := by
 go_enter Tryz.func49, Tryz.ntmps49
 go_wp2_with fail
 go_ret
 exact ⟨rfl, rfl⟩
set_option maxRecDepth 100000 in
set_option maxHeartbeats 4000000 in
theorem r53 (w : World) (i x : Int) : Calls Tryz.prog 53 #[i, x] w fun e w' => e = .returned (.bool (within x 0 72057594037927936)) ∧ w' = w := by
 go_enter Tryz.func53, Tryz.ntmps53
 go_wp2_with fail
 refine (within_any _ _ _ _).mono ?_
 rintro e w1 ⟨rfl, rfl⟩
 go_wp2_with fail
 go_ret
 exact ⟨rfl, rfl⟩
set_option maxRecDepth 100000 in
set_option maxHeartbeats 4000000 in
theorem r56 (w : World) (i x : Int) : Calls Tryz.prog 56 #[i, x] w fun e w' => e = .returned (.bool (within x (-4398046511104) 4398046511104)) ∧ w' = w := by
 go_enter Tryz.func56, Tryz.ntmps56
 go_wp2_with fail
 refine (within_any _ _ _ _).mono ?_
 rintro e w1 ⟨rfl, rfl⟩
 go_wp2_with fail
 go_ret
 exact ⟨rfl, rfl⟩
set_option maxRecDepth 100000 in
set_option maxHeartbeats 4000000 in
theorem r44_0 (w : World) (b : Nat) (x y : Int) (hc : w.cell? ⟨b, 0, none⟩ = some (.int .i64 y)) : Calls Tryz.prog 44 #[(), x, .pointer (some ⟨b, 0, none⟩)] w fun e w' => e = .returned (.bool (within x y 1125899906842624)) ∧ w' = w := by
 go_enter Tryz.func44, Tryz.ntmps44
 go_wp2_with fail
 refine (within_any _ _ _ _).mono ?_
 rintro e w1 ⟨rfl, rfl⟩
 go_wp2_with fail
 go_ret
 exact ⟨rfl, rfl⟩
set_option maxRecDepth 100000 in
set_option maxHeartbeats 4000000 in
theorem r44_1 (w : World) (b : Nat) (x y : Int) (hc : w.cell? ⟨b, 1, none⟩ = some (.int .i64 y)) : Calls Tryz.prog 44 #[.int .i64 1, x, .pointer (some ⟨b, 0, none⟩)] w fun e w' => e = .returned (.bool (within x y 1125899906842624)) ∧ w' = w := by
 go_enter Tryz.func44, Tryz.ntmps44
 go_wp2_with fail
 refine (within_any _ _ _ _).mono ?_
 rintro e w1 ⟨rfl, rfl⟩
 go_wp2_with fail
 go_ret
 exact ⟨rfl, rfl⟩
set_option maxRecDepth 100000 in
set_option maxHeartbeats 4000000 in
theorem r44_2 (w : World) (b : Nat) (x y : Int) (hc : w.cell? ⟨b, 2, none⟩ = some (.int .i64 y)) : Calls Tryz.prog 44 #[.int .i64 2, x, .pointer (some ⟨b, 0, none⟩)] w fun e w' => e = .returned (.bool (within x y 1125899906842624)) ∧ w' = w := by
 go_enter Tryz.func44, Tryz.ntmps44
 go_wp2_with fail
 refine (within_any _ _ _ _).mono ?_
 rintro e w1 ⟨rfl, rfl⟩
 go_wp2_with fail
 go_ret
 exact ⟨rfl, rfl⟩
set_option maxRecDepth 100000 in
set_option maxHeartbeats 4000000 in
theorem r51_0 (w : World) (b : Nat) (x y z : Int) (hc : w.cell? ⟨b, 11, none⟩ = some (.int .i64 y)) (hd : w.cell? ⟨b, 14, none⟩ = some (.int .i64 z)) : Calls Tryz.prog 51 #[(), x, .pointer (some ⟨b, 0, none⟩)] w fun e w' => e = .returned (.bool (within x y z)) ∧ Below w.heap.size w w' := by
 go_enter Tryz.func51, Tryz.ntmps51
 go_wp2_with fail
 go_quiet ((go_at_call 42; exact Calls.quiet_of_same (within_any _ _ _ _)))
 go_wp2_with fail
 go_ret
 exact ⟨rfl, pw_below_drewN (Below.refl _ _) _⟩
set_option maxRecDepth 100000 in
set_option maxHeartbeats 4000000 in
theorem r51_1 (w : World) (b : Nat) (x y z : Int) (hc : w.cell? ⟨b, 12, none⟩ = some (.int .i64 y)) (hd : w.cell? ⟨b, 15, none⟩ = some (.int .i64 z)) : Calls Tryz.prog 51 #[.int .i64 1, x, .pointer (some ⟨b, 0, none⟩)] w fun e w' => e = .returned (.bool (within x y z)) ∧ Below w.heap.size w w' := by
 go_enter Tryz.func51, Tryz.ntmps51
 go_wp2_with fail
 go_quiet ((go_at_call 42; exact Calls.quiet_of_same (within_any _ _ _ _)))
 go_wp2_with fail
 go_ret
 exact ⟨rfl, pw_below_drewN (Below.refl _ _) _⟩
set_option maxRecDepth 100000 in
set_option maxHeartbeats 4000000 in
theorem r51_2 (w : World) (b : Nat) (x y z : Int) (hc : w.cell? ⟨b, 13, none⟩ = some (.int .i64 y)) (hd : w.cell? ⟨b, 16, none⟩ = some (.int .i64 z)) : Calls Tryz.prog 51 #[.int .i64 2, x, .pointer (some ⟨b, 0, none⟩)] w fun e w' => e = .returned (.bool (within x y z)) ∧ Below w.heap.size w w' := by
 go_enter Tryz.func51, Tryz.ntmps51
 go_wp2_with fail
 go_quiet ((go_at_call 42; exact Calls.quiet_of_same (within_any _ _ _ _)))
 go_wp2_with fail
 go_ret
 exact ⟨rfl, pw_below_drewN (Below.refl _ _) _⟩
set_option maxRecDepth 100000 in
set_option maxHeartbeats 4000000 in
theorem rule39 (w : World) (c : Cf) : Calls Tryz.prog 39 #[.agg c.v] w fun e w' => e = .returned (.bool (within c.q0 0 1125899906842624 && (within c.q1 0 1125899906842624 && within c.q2 0 1125899906842624))) ∧ Below w.heap.size w w' := by
 unfold Cf.v
 have hmk := mk_func
 go_enter Tryz.func39, Tryz.ntmps39
 go_upto_region 1 with fail
 have HX := am (blk_new w (.cells #[c.q0, c.q1, c.q2, c.l0, c.l1, c.l2, c.r, c.rg, c.s0, c.s1, c.s2, c.f0, c.f1, c.f2, c.c0, c.c1, c.c2, c.b0, c.b1, c.b2, c.g, c.t0, c.t1, c.t2, c.sc, c.rest, c.clip, c.hold, c.coast, c.out, c.band] 28))
 have HB := am (below_alloc (Below.refl w.heap.size w) (.cells #[c.q0, c.q1, c.q2, c.l0, c.l1, c.l2, c.r, c.rg, c.s0, c.s1, c.s2, c.f0, c.f1, c.f2, c.c0, c.c1, c.c2, c.b0, c.b1, c.b2, c.g, c.t0, c.t1, c.t2, c.sc, c.rest, c.clip, c.hold, c.coast, c.out, c.band] 28))
 generalize w.alloc (.cells #[c.q0, c.q1, c.q2, c.l0, c.l1, c.l2, c.r, c.rg, c.s0, c.s1, c.s2, c.f0, c.f1, c.f2, c.c0, c.c1, c.c2, c.b0, c.b1, c.b2, c.g, c.t0, c.t1, c.t2, c.sc, c.rest, c.clip, c.hold, c.coast, c.out, c.band] 28) = w1 at HX HB ⊢
 generalize w.heap.size = b at HX ⊢
 have x0 := b_l HX 0 rfl
 have x1 := b_l HX 1 rfl
 have x2 := b_l HX 2 rfl
 go_wp2_with fail
 refine (all_any w1 41 #[] c.q0 c.q1 c.q2 _ _ _ (fun _ _ => by kernel_rfl) (fun w' _ => (r41 w' 0 _).mono fun e w'' h => ⟨h.1, below_same h.2⟩) (fun w' _ => (r41 w' 1 _).mono fun e w'' h => ⟨h.1, below_same h.2⟩) (fun w' _ => (r41 w' 2 _).mono fun e w'' h => ⟨h.1, below_same h.2⟩)).mono ?_
 rintro e w2 ⟨rfl, hb⟩
 go_wp2_with fail
 go_ret
 exact ⟨rfl, below_step HB.out hb⟩
set_option maxRecDepth 100000 in
set_option maxHeartbeats 4000000 in
theorem rule43 (w : World) (c : Cf) : Calls Tryz.prog 43 #[.agg c.v] w fun e w' => e = .returned (.bool (within c.l0 c.q0 1125899906842624 && (within c.l1 c.q1 1125899906842624 && within c.l2 c.q2 1125899906842624))) ∧ Below w.heap.size w w' := by
 unfold Cf.v
 have hmk := mk_func
 go_enter Tryz.func43, Tryz.ntmps43
 go_upto_region 1 with fail
 have HX := am (blk_new w (.cells #[c.q0, c.q1, c.q2, c.l0, c.l1, c.l2, c.r, c.rg, c.s0, c.s1, c.s2, c.f0, c.f1, c.f2, c.c0, c.c1, c.c2, c.b0, c.b1, c.b2, c.g, c.t0, c.t1, c.t2, c.sc, c.rest, c.clip, c.hold, c.coast, c.out, c.band] 28))
 have HB := am (below_alloc (Below.refl w.heap.size w) (.cells #[c.q0, c.q1, c.q2, c.l0, c.l1, c.l2, c.r, c.rg, c.s0, c.s1, c.s2, c.f0, c.f1, c.f2, c.c0, c.c1, c.c2, c.b0, c.b1, c.b2, c.g, c.t0, c.t1, c.t2, c.sc, c.rest, c.clip, c.hold, c.coast, c.out, c.band] 28))
 generalize w.alloc (.cells #[c.q0, c.q1, c.q2, c.l0, c.l1, c.l2, c.r, c.rg, c.s0, c.s1, c.s2, c.f0, c.f1, c.f2, c.c0, c.c1, c.c2, c.b0, c.b1, c.b2, c.g, c.t0, c.t1, c.t2, c.sc, c.rest, c.clip, c.hold, c.coast, c.out, c.band] 28) = w1 at HX HB ⊢
 generalize w.heap.size = b at HX ⊢
 have x3 := b_l HX 3 rfl
 have x4 := b_l HX 4 rfl
 have x5 := b_l HX 5 rfl
 go_wp2_with fail
 refine (all_any w1 44 #[.pointer (some ⟨b, 0, none⟩)] c.l0 c.l1 c.l2 _ _ _ (fun _ _ => by kernel_rfl) (fun w' hw => (r44_0 w' b _ c.q0 ((blk_cell (blk_below HX.out hw) 0).trans rfl)).mono fun e w'' h => ⟨h.1, below_same h.2⟩) (fun w' hw => (r44_1 w' b _ c.q1 ((blk_cell (blk_below HX.out hw) 1).trans rfl)).mono fun e w'' h => ⟨h.1, below_same h.2⟩) (fun w' hw => (r44_2 w' b _ c.q2 ((blk_cell (blk_below HX.out hw) 2).trans rfl)).mono fun e w'' h => ⟨h.1, below_same h.2⟩)).mono ?_
 rintro e w2 ⟨rfl, hb⟩
 go_wp2_with fail
 go_ret
 exact ⟨rfl, below_step HB.out hb⟩
set_option maxRecDepth 100000 in
set_option maxHeartbeats 4000000 in
theorem rule45 (w : World) (c : Cf) : Calls Tryz.prog 45 #[.agg c.v] w fun e w' => e = .returned (.bool (within c.r 274877906944 1125899906842624)) ∧ Below w.heap.size w w' := by
 unfold Cf.v
 have hmk := mk_func
 go_enter Tryz.func45, Tryz.ntmps45
 go_upto_region 1 with fail
 have HX := am (blk_new w (.cells #[c.q0, c.q1, c.q2, c.l0, c.l1, c.l2, c.r, c.rg, c.s0, c.s1, c.s2, c.f0, c.f1, c.f2, c.c0, c.c1, c.c2, c.b0, c.b1, c.b2, c.g, c.t0, c.t1, c.t2, c.sc, c.rest, c.clip, c.hold, c.coast, c.out, c.band] 28))
 have HB := am (below_alloc (Below.refl w.heap.size w) (.cells #[c.q0, c.q1, c.q2, c.l0, c.l1, c.l2, c.r, c.rg, c.s0, c.s1, c.s2, c.f0, c.f1, c.f2, c.c0, c.c1, c.c2, c.b0, c.b1, c.b2, c.g, c.t0, c.t1, c.t2, c.sc, c.rest, c.clip, c.hold, c.coast, c.out, c.band] 28))
 generalize w.alloc (.cells #[c.q0, c.q1, c.q2, c.l0, c.l1, c.l2, c.r, c.rg, c.s0, c.s1, c.s2, c.f0, c.f1, c.f2, c.c0, c.c1, c.c2, c.b0, c.b1, c.b2, c.g, c.t0, c.t1, c.t2, c.sc, c.rest, c.clip, c.hold, c.coast, c.out, c.band] 28) = w1 at HX HB ⊢
 generalize w.heap.size = b at HX ⊢
 have x6 := b_l HX 6 rfl
 go_wp2_with fail
 refine (within_any _ _ _ _).mono ?_
 rintro e w2 ⟨rfl, rfl⟩
 go_wp2_with fail
 go_ret
 exact ⟨rfl, HB.out⟩
set_option maxRecDepth 100000 in
set_option maxHeartbeats 4000000 in
theorem rule46 (w : World) (c : Cf) : Calls Tryz.prog 46 #[.agg c.v] w fun e w' => e = .returned (.bool (within c.rg c.r 1125899906842624)) ∧ Below w.heap.size w w' := by
 unfold Cf.v
 have hmk := mk_func
 go_enter Tryz.func46, Tryz.ntmps46
 go_upto_region 1 with fail
 have HX := am (blk_new w (.cells #[c.q0, c.q1, c.q2, c.l0, c.l1, c.l2, c.r, c.rg, c.s0, c.s1, c.s2, c.f0, c.f1, c.f2, c.c0, c.c1, c.c2, c.b0, c.b1, c.b2, c.g, c.t0, c.t1, c.t2, c.sc, c.rest, c.clip, c.hold, c.coast, c.out, c.band] 28))
 have HB := am (below_alloc (Below.refl w.heap.size w) (.cells #[c.q0, c.q1, c.q2, c.l0, c.l1, c.l2, c.r, c.rg, c.s0, c.s1, c.s2, c.f0, c.f1, c.f2, c.c0, c.c1, c.c2, c.b0, c.b1, c.b2, c.g, c.t0, c.t1, c.t2, c.sc, c.rest, c.clip, c.hold, c.coast, c.out, c.band] 28))
 generalize w.alloc (.cells #[c.q0, c.q1, c.q2, c.l0, c.l1, c.l2, c.r, c.rg, c.s0, c.s1, c.s2, c.f0, c.f1, c.f2, c.c0, c.c1, c.c2, c.b0, c.b1, c.b2, c.g, c.t0, c.t1, c.t2, c.sc, c.rest, c.clip, c.hold, c.coast, c.out, c.band] 28) = w1 at HX HB ⊢
 generalize w.heap.size = b at HX ⊢
 have x6 := b_l HX 6 rfl
 have x7 := b_l HX 7 rfl
 go_wp2_with fail
 refine (within_any _ _ _ _).mono ?_
 rintro e w2 ⟨rfl, rfl⟩
 go_wp2_with fail
 go_ret
 exact ⟨rfl, HB.out⟩
set_option maxRecDepth 100000 in
set_option maxHeartbeats 4000000 in
theorem rule54 (w : World) (c : Cf) : Calls Tryz.prog 54 #[.agg c.v] w fun e w' => e = .returned (.bool (within c.g 1 1000)) ∧ Below w.heap.size w w' := by
 unfold Cf.v
 have hmk := mk_func
 go_enter Tryz.func54, Tryz.ntmps54
 go_upto_region 1 with fail
 have HX := am (blk_new w (.cells #[c.q0, c.q1, c.q2, c.l0, c.l1, c.l2, c.r, c.rg, c.s0, c.s1, c.s2, c.f0, c.f1, c.f2, c.c0, c.c1, c.c2, c.b0, c.b1, c.b2, c.g, c.t0, c.t1, c.t2, c.sc, c.rest, c.clip, c.hold, c.coast, c.out, c.band] 28))
 have HB := am (below_alloc (Below.refl w.heap.size w) (.cells #[c.q0, c.q1, c.q2, c.l0, c.l1, c.l2, c.r, c.rg, c.s0, c.s1, c.s2, c.f0, c.f1, c.f2, c.c0, c.c1, c.c2, c.b0, c.b1, c.b2, c.g, c.t0, c.t1, c.t2, c.sc, c.rest, c.clip, c.hold, c.coast, c.out, c.band] 28))
 generalize w.alloc (.cells #[c.q0, c.q1, c.q2, c.l0, c.l1, c.l2, c.r, c.rg, c.s0, c.s1, c.s2, c.f0, c.f1, c.f2, c.c0, c.c1, c.c2, c.b0, c.b1, c.b2, c.g, c.t0, c.t1, c.t2, c.sc, c.rest, c.clip, c.hold, c.coast, c.out, c.band] 28) = w1 at HX HB ⊢
 generalize w.heap.size = b at HX ⊢
 have x20 := b_l HX 20 rfl
 go_wp2_with fail
 refine (within_any _ _ _ _).mono ?_
 rintro e w2 ⟨rfl, rfl⟩
 go_wp2_with fail
 go_ret
 exact ⟨rfl, HB.out⟩
set_option maxRecDepth 100000 in
set_option maxHeartbeats 4000000 in
theorem rule57 (w : World) (c : Cf) : Calls Tryz.prog 57 #[.agg c.v] w fun e w' => e = .returned (.bool (within c.sc 1 1099511627776)) ∧ Below w.heap.size w w' := by
 unfold Cf.v
 have hmk := mk_func
 go_enter Tryz.func57, Tryz.ntmps57
 go_upto_region 1 with fail
 have HX := am (blk_new w (.cells #[c.q0, c.q1, c.q2, c.l0, c.l1, c.l2, c.r, c.rg, c.s0, c.s1, c.s2, c.f0, c.f1, c.f2, c.c0, c.c1, c.c2, c.b0, c.b1, c.b2, c.g, c.t0, c.t1, c.t2, c.sc, c.rest, c.clip, c.hold, c.coast, c.out, c.band] 28))
 have HB := am (below_alloc (Below.refl w.heap.size w) (.cells #[c.q0, c.q1, c.q2, c.l0, c.l1, c.l2, c.r, c.rg, c.s0, c.s1, c.s2, c.f0, c.f1, c.f2, c.c0, c.c1, c.c2, c.b0, c.b1, c.b2, c.g, c.t0, c.t1, c.t2, c.sc, c.rest, c.clip, c.hold, c.coast, c.out, c.band] 28))
 generalize w.alloc (.cells #[c.q0, c.q1, c.q2, c.l0, c.l1, c.l2, c.r, c.rg, c.s0, c.s1, c.s2, c.f0, c.f1, c.f2, c.c0, c.c1, c.c2, c.b0, c.b1, c.b2, c.g, c.t0, c.t1, c.t2, c.sc, c.rest, c.clip, c.hold, c.coast, c.out, c.band] 28) = w1 at HX HB ⊢
 generalize w.heap.size = b at HX ⊢
 have x24 := b_l HX 24 rfl
 go_wp2_with fail
 refine (within_any _ _ _ _).mono ?_
 rintro e w2 ⟨rfl, rfl⟩
 go_wp2_with fail
 go_ret
 exact ⟨rfl, HB.out⟩
set_option maxRecDepth 100000 in
set_option maxHeartbeats 4000000 in
theorem rule59 (w : World) (c : Cf) : Calls Tryz.prog 59 #[.agg c.v] w fun e w' => e = .returned (.bool (within c.hold 0 1000)) ∧ Below w.heap.size w w' := by
 unfold Cf.v
 have hmk := mk_func
 go_enter Tryz.func59, Tryz.ntmps59
 go_upto_region 1 with fail
 have HX := am (blk_new w (.cells #[c.q0, c.q1, c.q2, c.l0, c.l1, c.l2, c.r, c.rg, c.s0, c.s1, c.s2, c.f0, c.f1, c.f2, c.c0, c.c1, c.c2, c.b0, c.b1, c.b2, c.g, c.t0, c.t1, c.t2, c.sc, c.rest, c.clip, c.hold, c.coast, c.out, c.band] 28))
 have HB := am (below_alloc (Below.refl w.heap.size w) (.cells #[c.q0, c.q1, c.q2, c.l0, c.l1, c.l2, c.r, c.rg, c.s0, c.s1, c.s2, c.f0, c.f1, c.f2, c.c0, c.c1, c.c2, c.b0, c.b1, c.b2, c.g, c.t0, c.t1, c.t2, c.sc, c.rest, c.clip, c.hold, c.coast, c.out, c.band] 28))
 generalize w.alloc (.cells #[c.q0, c.q1, c.q2, c.l0, c.l1, c.l2, c.r, c.rg, c.s0, c.s1, c.s2, c.f0, c.f1, c.f2, c.c0, c.c1, c.c2, c.b0, c.b1, c.b2, c.g, c.t0, c.t1, c.t2, c.sc, c.rest, c.clip, c.hold, c.coast, c.out, c.band] 28) = w1 at HX HB ⊢
 generalize w.heap.size = b at HX ⊢
 have x27 := b_l HX 27 rfl
 go_wp2_with fail
 refine (within_any _ _ _ _).mono ?_
 rintro e w2 ⟨rfl, rfl⟩
 go_wp2_with fail
 go_ret
 exact ⟨rfl, HB.out⟩
set_option maxRecDepth 100000 in
set_option maxHeartbeats 4000000 in
theorem rule61 (w : World) (c : Cf) : Calls Tryz.prog 61 #[.agg c.v] w fun e w' => e = .returned (.bool (within c.band 0 400000)) ∧ Below w.heap.size w w' := by
 unfold Cf.v
 have hmk := mk_func
 go_enter Tryz.func61, Tryz.ntmps61
 go_upto_region 1 with fail
 have HX := am (blk_new w (.cells #[c.q0, c.q1, c.q2, c.l0, c.l1, c.l2, c.r, c.rg, c.s0, c.s1, c.s2, c.f0, c.f1, c.f2, c.c0, c.c1, c.c2, c.b0, c.b1, c.b2, c.g, c.t0, c.t1, c.t2, c.sc, c.rest, c.clip, c.hold, c.coast, c.out, c.band] 28))
 have HB := am (below_alloc (Below.refl w.heap.size w) (.cells #[c.q0, c.q1, c.q2, c.l0, c.l1, c.l2, c.r, c.rg, c.s0, c.s1, c.s2, c.f0, c.f1, c.f2, c.c0, c.c1, c.c2, c.b0, c.b1, c.b2, c.g, c.t0, c.t1, c.t2, c.sc, c.rest, c.clip, c.hold, c.coast, c.out, c.band] 28))
 generalize w.alloc (.cells #[c.q0, c.q1, c.q2, c.l0, c.l1, c.l2, c.r, c.rg, c.s0, c.s1, c.s2, c.f0, c.f1, c.f2, c.c0, c.c1, c.c2, c.b0, c.b1, c.b2, c.g, c.t0, c.t1, c.t2, c.sc, c.rest, c.clip, c.hold, c.coast, c.out, c.band] 28) = w1 at HX HB ⊢
 generalize w.heap.size = b at HX ⊢
 have x30 := b_l HX 30 rfl
 go_wp2_with fail
 refine (within_any _ _ _ _).mono ?_
 rintro e w2 ⟨rfl, rfl⟩
 go_wp2_with fail
 go_ret
 exact ⟨rfl, HB.out⟩
set_option maxRecDepth 100000 in
set_option maxHeartbeats 4000000 in
theorem rule50 (w : World) (c : Cf) : Calls Tryz.prog 50 #[.agg c.v] w fun e w' => e = .returned (.bool (within c.s0 c.f0 c.c0 && (within c.s1 c.f1 c.c1 && within c.s2 c.f2 c.c2))) ∧ Below w.heap.size w w' := by
 unfold Cf.v
 have hmk := mk_func
 go_enter Tryz.func50, Tryz.ntmps50
 go_upto_region 1 with fail
 have HX := am (blk_new w (.cells #[c.q0, c.q1, c.q2, c.l0, c.l1, c.l2, c.r, c.rg, c.s0, c.s1, c.s2, c.f0, c.f1, c.f2, c.c0, c.c1, c.c2, c.b0, c.b1, c.b2, c.g, c.t0, c.t1, c.t2, c.sc, c.rest, c.clip, c.hold, c.coast, c.out, c.band] 28))
 have HB := am (below_alloc (Below.refl w.heap.size w) (.cells #[c.q0, c.q1, c.q2, c.l0, c.l1, c.l2, c.r, c.rg, c.s0, c.s1, c.s2, c.f0, c.f1, c.f2, c.c0, c.c1, c.c2, c.b0, c.b1, c.b2, c.g, c.t0, c.t1, c.t2, c.sc, c.rest, c.clip, c.hold, c.coast, c.out, c.band] 28))
 generalize w.alloc (.cells #[c.q0, c.q1, c.q2, c.l0, c.l1, c.l2, c.r, c.rg, c.s0, c.s1, c.s2, c.f0, c.f1, c.f2, c.c0, c.c1, c.c2, c.b0, c.b1, c.b2, c.g, c.t0, c.t1, c.t2, c.sc, c.rest, c.clip, c.hold, c.coast, c.out, c.band] 28) = w1 at HX HB ⊢
 generalize w.heap.size = b at HX ⊢
 have x8 := b_l HX 8 rfl
 have x9 := b_l HX 9 rfl
 have x10 := b_l HX 10 rfl
 go_wp2_with fail
 refine (all_any w1 51 #[.pointer (some ⟨b, 0, none⟩)] c.s0 c.s1 c.s2 _ _ _ (fun _ _ => by kernel_rfl) (fun w' hw => r51_0 w' b _ c.f0 c.c0 ((blk_cell (blk_below HX.out hw) 11).trans rfl) ((blk_cell (blk_below HX.out hw) 14).trans rfl)) (fun w' hw => r51_1 w' b _ c.f1 c.c1 ((blk_cell (blk_below HX.out hw) 12).trans rfl) ((blk_cell (blk_below HX.out hw) 15).trans rfl)) (fun w' hw => r51_2 w' b _ c.f2 c.c2 ((blk_cell (blk_below HX.out hw) 13).trans rfl) ((blk_cell (blk_below HX.out hw) 16).trans rfl))).mono ?_
 rintro e w2 ⟨rfl, hb⟩
 go_wp2_with fail
 go_ret
 exact ⟨rfl, below_step HB.out hb⟩
theorem size1 (w : World) (o : Obj) : (w.alloc o).heap.size = w.heap.size + 1 := by
 unfold World.alloc
 exact Array.size_push _
theorem blocks2 (w : World) (x y : Array Value) (t s : TypeId) : ((w.alloc (.cells x t)).alloc (.cells y s)).heap[w.heap.size]? = some (.cells x t (0, 0)) ∧ ((w.alloc (.cells x t)).alloc (.cells y s)).heap[w.heap.size + 1]? = some (.cells y s (0, 0)) ∧
  Below w.heap.size w ((w.alloc (.cells x t)).alloc (.cells y s)) := by
 have h := blk_new (w.alloc (.cells x t)) (.cells y s)
 rw [size1] at h
 exact ⟨blk_alloc (blk_new w _) _, h, below_alloc (below_alloc (Below.refl _ _) _) _⟩
def m1 (f c : Int) : Bool := !decide (f < 0) && (!decide (c < f) && fits c)
set_option maxRecDepth 100000 in
set_option maxHeartbeats 4000000 in
theorem may_any (w : World) (f0 f1 f2 c0 c1 c2 : Int) : Calls Tryz.prog 48 #[.agg #[f0, f1, f2], .agg #[c0, c1, c2]] w fun e w' => e = .returned (.bool (m1 f0 c0 && (m1 f1 c1 && m1 f2 c2))) ∧ Below w.heap.size w w' := by
 go_enter Tryz.func48, Tryz.ntmps48
 go_upto_region 1 with fail
 obtain ⟨x2, x3, hB⟩ := blocks2 w #[f0, f1, f2] #[c0, c1, c2] 26 26
 generalize (w.alloc (.cells #[f0, f1, f2] 26)).alloc (.cells #[c0, c1, c2] 26) = wb at x2 x3 hB ⊢
 obtain ⟨bf, hf⟩ := e_x (w.heap.size)
 obtain ⟨bc, hc⟩ := e_x (w.heap.size + 1)
 rw [← hc, ← hf]
 rw [← hc] at x3
 rw [← hf] at x2
 have HF := am x2
 have HC := am x3
 have HW := am hB
 clear x2 x3 hB hf hc
 have HR := am (Below.refl wb.heap.size wb)
 go_wp2_with fail
 go_loopw [6] (fun v6 wr => ∃ k : Int, (0 ≤ k ∧ k ≤ 3) ∧ v6 = .int .i64 k ∧ Aside0 (Below wb.heap.size wb wr) ∧ Aside0 ((1 ≤ k → m1 f0 c0 = true) ∧ (2 ≤ k → m1 f1 c1 = true) ∧ (3 ≤ k → m1 f2 c2 = true))) (fun v6 _ => 4 - (intOf v6).toNat)
 case atStart => exact ⟨0, by omega, rfl, HR, ⟨by omega, by omega, by omega⟩⟩
 case round =>
  clear HR
  obtain ⟨k, hk, rfl, HR, HK⟩ := hrel
  have hk4 : k = 0 ∨ k = 1 ∨ k = 2 ∨ k = 3 := by omega
  clear hk
  rcases hk4 with rfl | rfl | rfl | rfl
  ·
   skip
   clear HK
   have y1 := bcl (blk_below HF.out HR.out) 0 rfl
   have y2 := bcl (blk_below HC.out HR.out) 0 rfl
   by_cases d1 : f0 < 0
   ·
    have e1 : decide (f0 < 0) = true := decide_eq_true d1
    have hm : m1 f0 c0 = false := by simp [m1, d1]
    go_wp2_with fail
    go_quiet ((go_at_call 90; exact Calls.quiet_of_same (fits_any _ _)))
    go_wp2_with fail
    go_ret
    exact ⟨by simp [hm], below_step HW.out (pw_below_drewN HR.out _)⟩
   have e1 : decide (f0 < 0) = false := decide_eq_false d1
   by_cases d2 : c0 < f0
   ·
    have e2 : decide (c0 < f0) = true := decide_eq_true d2
    have hm : m1 f0 c0 = false := by simp [m1, d1, d2]
    go_wp2_with fail
    go_quiet ((go_at_call 90; exact Calls.quiet_of_same (fits_any _ _)))
    go_wp2_with fail
    go_ret
    exact ⟨by simp [hm], below_step HW.out (pw_below_drewN HR.out _)⟩
   have e2 : decide (c0 < f0) = false := decide_eq_false d2
   obtain ⟨k, HK⟩ : ∃ k, Aside0 (fits c0 = k) := ⟨_, ⟨rfl⟩⟩
   have HQ : ∀ w, Calls Tryz.prog 90 #[c0] w fun e w' => e = .returned (.bool k) ∧ w' = w := fun w => by rw [← HK.out]; exact fits_any w _
   cases k with
   | false =>
    have hm : m1 f0 c0 = false := by simp [m1, d1, d2, HK.out]
    go_wp2_with fail
    go_quiet ((go_at_call 90; exact Calls.quiet_of_same (HQ _)))
    go_wp2_with fail
    go_ret
    exact ⟨by simp [hm], below_step HW.out (pw_below_drewN HR.out _)⟩
   | true =>
    have hm : m1 f0 c0 = true := by simp [m1, d1, d2, HK.out]
    have HM0 := am hm
    clear hm
    go_wp2_with fail
    go_quiet ((go_at_call 90; exact Calls.quiet_of_same (HQ _)))
    go_wp2_with fail
    go_roundw
    case rel => exact ⟨1, by decide, rfl, ⟨pw_below_drewN HR.out _⟩, ⟨by simp [HM0.out], by simp, by simp⟩⟩
    case measure => decide
  ·
   skip
   have HM0 := am (HK.out.1 (by decide))
   clear HK
   have y1 := bcl (blk_below HF.out HR.out) 1 rfl
   have y2 := bcl (blk_below HC.out HR.out) 1 rfl
   by_cases d1 : f1 < 0
   ·
    have e1 : decide (f1 < 0) = true := decide_eq_true d1
    have hm : m1 f1 c1 = false := by simp [m1, d1]
    go_wp2_with fail
    go_quiet ((go_at_call 90; exact Calls.quiet_of_same (fits_any _ _)))
    go_wp2_with fail
    go_ret
    exact ⟨by simp [HM0.out, hm], below_step HW.out (pw_below_drewN HR.out _)⟩
   have e1 : decide (f1 < 0) = false := decide_eq_false d1
   by_cases d2 : c1 < f1
   ·
    have e2 : decide (c1 < f1) = true := decide_eq_true d2
    have hm : m1 f1 c1 = false := by simp [m1, d1, d2]
    go_wp2_with fail
    go_quiet ((go_at_call 90; exact Calls.quiet_of_same (fits_any _ _)))
    go_wp2_with fail
    go_ret
    exact ⟨by simp [HM0.out, hm], below_step HW.out (pw_below_drewN HR.out _)⟩
   have e2 : decide (c1 < f1) = false := decide_eq_false d2
   obtain ⟨k, HK⟩ : ∃ k, Aside0 (fits c1 = k) := ⟨_, ⟨rfl⟩⟩
   have HQ : ∀ w, Calls Tryz.prog 90 #[c1] w fun e w' => e = .returned (.bool k) ∧ w' = w := fun w => by rw [← HK.out]; exact fits_any w _
   cases k with
   | false =>
    have hm : m1 f1 c1 = false := by simp [m1, d1, d2, HK.out]
    go_wp2_with fail
    go_quiet ((go_at_call 90; exact Calls.quiet_of_same (HQ _)))
    go_wp2_with fail
    go_ret
    exact ⟨by simp [HM0.out, hm], below_step HW.out (pw_below_drewN HR.out _)⟩
   | true =>
    have hm : m1 f1 c1 = true := by simp [m1, d1, d2, HK.out]
    have HM1 := am hm
    clear hm
    go_wp2_with fail
    go_quiet ((go_at_call 90; exact Calls.quiet_of_same (HQ _)))
    go_wp2_with fail
    go_roundw
    case rel => exact ⟨2, by decide, rfl, ⟨pw_below_drewN HR.out _⟩, ⟨by simp [HM0.out], by simp [HM1.out], by simp⟩⟩
    case measure => decide
  ·
   skip
   have HM0 := am (HK.out.1 (by decide))
   have HM1 := am (HK.out.2.1 (by decide))
   clear HK
   have y1 := bcl (blk_below HF.out HR.out) 2 rfl
   have y2 := bcl (blk_below HC.out HR.out) 2 rfl
   by_cases d1 : f2 < 0
   ·
    have e1 : decide (f2 < 0) = true := decide_eq_true d1
    have hm : m1 f2 c2 = false := by simp [m1, d1]
    go_wp2_with fail
    go_quiet ((go_at_call 90; exact Calls.quiet_of_same (fits_any _ _)))
    go_wp2_with fail
    go_ret
    exact ⟨by simp [HM0.out, HM1.out, hm], below_step HW.out (pw_below_drewN HR.out _)⟩
   have e1 : decide (f2 < 0) = false := decide_eq_false d1
   by_cases d2 : c2 < f2
   ·
    have e2 : decide (c2 < f2) = true := decide_eq_true d2
    have hm : m1 f2 c2 = false := by simp [m1, d1, d2]
    go_wp2_with fail
    go_quiet ((go_at_call 90; exact Calls.quiet_of_same (fits_any _ _)))
    go_wp2_with fail
    go_ret
    exact ⟨by simp [HM0.out, HM1.out, hm], below_step HW.out (pw_below_drewN HR.out _)⟩
   have e2 : decide (c2 < f2) = false := decide_eq_false d2
   obtain ⟨k, HK⟩ : ∃ k, Aside0 (fits c2 = k) := ⟨_, ⟨rfl⟩⟩
   have HQ : ∀ w, Calls Tryz.prog 90 #[c2] w fun e w' => e = .returned (.bool k) ∧ w' = w := fun w => by rw [← HK.out]; exact fits_any w _
   cases k with
   | false =>
    have hm : m1 f2 c2 = false := by simp [m1, d1, d2, HK.out]
    go_wp2_with fail
    go_quiet ((go_at_call 90; exact Calls.quiet_of_same (HQ _)))
    go_wp2_with fail
    go_ret
    exact ⟨by simp [HM0.out, HM1.out, hm], below_step HW.out (pw_below_drewN HR.out _)⟩
   | true =>
    have hm : m1 f2 c2 = true := by simp [m1, d1, d2, HK.out]
    have HM2 := am hm
    clear hm
    go_wp2_with fail
    go_quiet ((go_at_call 90; exact Calls.quiet_of_same (HQ _)))
    go_wp2_with fail
    go_roundw
    case rel => exact ⟨3, by decide, rfl, ⟨pw_below_drewN HR.out _⟩, ⟨by simp [HM0.out], by simp [HM1.out], by simp [HM2.out]⟩⟩
    case measure => decide
  have HM0 := HK.out.1 (by decide)
  have HM1 := HK.out.2.1 (by decide)
  have HM2 := HK.out.2.2 (by decide)
  replace HM0 := am HM0
  replace HM1 := am HM1
  replace HM2 := am HM2
  go_wp2_with fail
  go_ret
  exact ⟨by simp [HM0.out, HM1.out, HM2.out], below_step HW.out HR.out⟩
set_option maxRecDepth 100000 in
set_option maxHeartbeats 4000000 in
theorem rule52 (w : World) (c : Cf) : Calls Tryz.prog 52 #[.agg c.v] w fun e w' => e = .returned (.bool ((within c.b0 0 72057594037927936 && (within c.b1 0 72057594037927936 && within c.b2 0 72057594037927936)) && decide (18014398509481984 ≤ c.b0))) ∧ Below w.heap.size w w' := by
 unfold Cf.v
 have hmk := mk_func
 go_enter Tryz.func52, Tryz.ntmps52
 go_upto_region 1 with fail
 have HX := am (blk_new w (.cells #[c.q0, c.q1, c.q2, c.l0, c.l1, c.l2, c.r, c.rg, c.s0, c.s1, c.s2, c.f0, c.f1, c.f2, c.c0, c.c1, c.c2, c.b0, c.b1, c.b2, c.g, c.t0, c.t1, c.t2, c.sc, c.rest, c.clip, c.hold, c.coast, c.out, c.band] 28))
 have HB := am (below_alloc (Below.refl w.heap.size w) (.cells #[c.q0, c.q1, c.q2, c.l0, c.l1, c.l2, c.r, c.rg, c.s0, c.s1, c.s2, c.f0, c.f1, c.f2, c.c0, c.c1, c.c2, c.b0, c.b1, c.b2, c.g, c.t0, c.t1, c.t2, c.sc, c.rest, c.clip, c.hold, c.coast, c.out, c.band] 28))
 generalize w.alloc (.cells #[c.q0, c.q1, c.q2, c.l0, c.l1, c.l2, c.r, c.rg, c.s0, c.s1, c.s2, c.f0, c.f1, c.f2, c.c0, c.c1, c.c2, c.b0, c.b1, c.b2, c.g, c.t0, c.t1, c.t2, c.sc, c.rest, c.clip, c.hold, c.coast, c.out, c.band] 28) = w1 at HX HB ⊢
 generalize w.heap.size = b at HX ⊢
 have x17 := b_l HX 17 rfl
 have x18 := b_l HX 18 rfl
 have x19 := b_l HX 19 rfl
 go_wp2_with fail
 refine (all_any w1 53 #[] c.b0 c.b1 c.b2 _ _ _ (fun _ _ => by kernel_rfl) (fun w' _ => (r53 w' 0 _).mono fun e w'' h => ⟨h.1, below_same h.2⟩) (fun w' _ => (r53 w' 1 _).mono fun e w'' h => ⟨h.1, below_same h.2⟩) (fun w' _ => (r53 w' 2 _).mono fun e w'' h => ⟨h.1, below_same h.2⟩)).mono ?_
 rintro e w2 ⟨rfl, hb⟩
 replace HX := b_b HX hb
 replace HB := b_s HB hb
 clear hb x17 x18 x19
 obtain ⟨k, HK⟩ : ∃ k, Aside0 ((within c.b0 0 72057594037927936 && (within c.b1 0 72057594037927936 && within c.b2 0 72057594037927936)) = k) := ⟨_, ⟨rfl⟩⟩
 rw [HK.out]
 have x17 := b_l HX 17 rfl
 cases k with
 | true =>
  go_wp2_with fail
  go_ret
  exact ⟨by simp [HK.out], HB.out⟩
 | false =>
  go_wp2_with fail
  go_ret
  exact ⟨by simp [HK.out], HB.out⟩
set_option maxRecDepth 100000 in
set_option maxHeartbeats 4000000 in
theorem rule55 (w : World) (c : Cf) : Calls Tryz.prog 55 #[.agg c.v] w fun e w' => e = .returned (.bool ((within c.t0 (-4398046511104) 4398046511104 && (within c.t1 (-4398046511104) 4398046511104 && within c.t2 (-4398046511104) 4398046511104)) && within c.t0 0 1099511627776)) ∧ Below w.heap.size w w' := by
 unfold Cf.v
 have hmk := mk_func
 go_enter Tryz.func55, Tryz.ntmps55
 go_upto_region 1 with fail
 have HX := am (blk_new w (.cells #[c.q0, c.q1, c.q2, c.l0, c.l1, c.l2, c.r, c.rg, c.s0, c.s1, c.s2, c.f0, c.f1, c.f2, c.c0, c.c1, c.c2, c.b0, c.b1, c.b2, c.g, c.t0, c.t1, c.t2, c.sc, c.rest, c.clip, c.hold, c.coast, c.out, c.band] 28))
 have HB := am (below_alloc (Below.refl w.heap.size w) (.cells #[c.q0, c.q1, c.q2, c.l0, c.l1, c.l2, c.r, c.rg, c.s0, c.s1, c.s2, c.f0, c.f1, c.f2, c.c0, c.c1, c.c2, c.b0, c.b1, c.b2, c.g, c.t0, c.t1, c.t2, c.sc, c.rest, c.clip, c.hold, c.coast, c.out, c.band] 28))
 generalize w.alloc (.cells #[c.q0, c.q1, c.q2, c.l0, c.l1, c.l2, c.r, c.rg, c.s0, c.s1, c.s2, c.f0, c.f1, c.f2, c.c0, c.c1, c.c2, c.b0, c.b1, c.b2, c.g, c.t0, c.t1, c.t2, c.sc, c.rest, c.clip, c.hold, c.coast, c.out, c.band] 28) = w1 at HX HB ⊢
 generalize w.heap.size = b at HX ⊢
 have x21 := b_l HX 21 rfl
 have x22 := b_l HX 22 rfl
 have x23 := b_l HX 23 rfl
 go_wp2_with fail
 refine (all_any w1 56 #[] c.t0 c.t1 c.t2 _ _ _ (fun _ _ => by kernel_rfl) (fun w' _ => (r56 w' 0 _).mono fun e w'' h => ⟨h.1, below_same h.2⟩) (fun w' _ => (r56 w' 1 _).mono fun e w'' h => ⟨h.1, below_same h.2⟩) (fun w' _ => (r56 w' 2 _).mono fun e w'' h => ⟨h.1, below_same h.2⟩)).mono ?_
 rintro e w2 ⟨rfl, hb⟩
 replace HX := b_b HX hb
 replace HB := b_s HB hb
 clear hb x21 x22 x23
 obtain ⟨k, HK⟩ : ∃ k, Aside0 ((within c.t0 (-4398046511104) 4398046511104 && (within c.t1 (-4398046511104) 4398046511104 && within c.t2 (-4398046511104) 4398046511104)) = k) := ⟨_, ⟨rfl⟩⟩
 rw [HK.out]
 have x21 := b_l HX 21 rfl
 cases k with
 | true =>
  go_wp2_with fail
  refine (within_any _ _ _ _).mono ?_
  rintro e w3 ⟨rfl, rfl⟩
  go_wp2_with fail
  go_ret
  exact ⟨by simp [HK.out], HB.out⟩
 | false =>
  go_wp2_with fail
  go_ret
  exact ⟨by simp [HK.out], HB.out⟩
set_option maxRecDepth 100000 in
set_option maxHeartbeats 4000000 in
theorem rule58 (w : World) (c : Cf) : Calls Tryz.prog 58 #[.agg c.v] w fun e w' => e = .returned (.bool ((within c.clip 1 131072 && decide (wrap64 (-c.clip) < c.rest)) && decide (c.rest < c.clip))) ∧ Below w.heap.size w w' := by
 unfold Cf.v
 have hmk := mk_func
 go_enter Tryz.func58, Tryz.ntmps58
 go_upto_region 1 with fail
 have HX := am (blk_new w (.cells #[c.q0, c.q1, c.q2, c.l0, c.l1, c.l2, c.r, c.rg, c.s0, c.s1, c.s2, c.f0, c.f1, c.f2, c.c0, c.c1, c.c2, c.b0, c.b1, c.b2, c.g, c.t0, c.t1, c.t2, c.sc, c.rest, c.clip, c.hold, c.coast, c.out, c.band] 28))
 have HB := am (below_alloc (Below.refl w.heap.size w) (.cells #[c.q0, c.q1, c.q2, c.l0, c.l1, c.l2, c.r, c.rg, c.s0, c.s1, c.s2, c.f0, c.f1, c.f2, c.c0, c.c1, c.c2, c.b0, c.b1, c.b2, c.g, c.t0, c.t1, c.t2, c.sc, c.rest, c.clip, c.hold, c.coast, c.out, c.band] 28))
 generalize w.alloc (.cells #[c.q0, c.q1, c.q2, c.l0, c.l1, c.l2, c.r, c.rg, c.s0, c.s1, c.s2, c.f0, c.f1, c.f2, c.c0, c.c1, c.c2, c.b0, c.b1, c.b2, c.g, c.t0, c.t1, c.t2, c.sc, c.rest, c.clip, c.hold, c.coast, c.out, c.band] 28) = w1 at HX HB ⊢
 generalize w.heap.size = b at HX ⊢
 have x25 := b_l HX 25 rfl
 have x26 := b_l HX 26 rfl
 go_wp2_with fail
 refine (within_any _ _ _ _).mono ?_
 rintro e w2 ⟨rfl, rfl⟩
 obtain ⟨k, HK⟩ : ∃ k, Aside0 (within c.clip 1 131072 = k) := ⟨_, ⟨rfl⟩⟩
 rw [HK.out]
 cases k with
 | false =>
  go_wp2_with fail
  go_ret
  exact ⟨by simp [HK.out], HB.out⟩
 | true =>
  by_cases h : wrap64 (-c.clip) < c.rest
  ·
   have h1 : decide (wrap64 (-c.clip) < c.rest) = true := decide_eq_true h
   go_wp2_with fail
   go_ret
   exact ⟨by simp [h, HK.out], HB.out⟩
  have h1 : decide (wrap64 (-c.clip) < c.rest) = false := decide_eq_false h
  go_wp2_with fail
  go_ret
  exact ⟨by simp [HK.out]; intro h'; omega, HB.out⟩
set_option maxRecDepth 100000 in
set_option maxHeartbeats 4000000 in
theorem rule47 (w : World) (c : Cf) : Calls Tryz.prog 47 #[.agg c.v] w fun e w' => e = .returned (.bool ((m1 c.f0 c.c0 && (m1 c.f1 c.c1 && m1 c.f2 c.c2)) && (decide (c.c0 ≤ 72057594037927936) && (decide (c.c1 ≤ 72057594037927936) && decide (c.c2 ≤ 72057594037927936))))) ∧ Below w.heap.size w w' := by
 unfold Cf.v
 have hmk := mk_func
 go_enter Tryz.func47, Tryz.ntmps47
 go_upto_region 1 with fail
 have HX := am (blk_new w (.cells #[c.q0, c.q1, c.q2, c.l0, c.l1, c.l2, c.r, c.rg, c.s0, c.s1, c.s2, c.f0, c.f1, c.f2, c.c0, c.c1, c.c2, c.b0, c.b1, c.b2, c.g, c.t0, c.t1, c.t2, c.sc, c.rest, c.clip, c.hold, c.coast, c.out, c.band] 28))
 have HB := am (below_alloc (Below.refl w.heap.size w) (.cells #[c.q0, c.q1, c.q2, c.l0, c.l1, c.l2, c.r, c.rg, c.s0, c.s1, c.s2, c.f0, c.f1, c.f2, c.c0, c.c1, c.c2, c.b0, c.b1, c.b2, c.g, c.t0, c.t1, c.t2, c.sc, c.rest, c.clip, c.hold, c.coast, c.out, c.band] 28))
 generalize w.alloc (.cells #[c.q0, c.q1, c.q2, c.l0, c.l1, c.l2, c.r, c.rg, c.s0, c.s1, c.s2, c.f0, c.f1, c.f2, c.c0, c.c1, c.c2, c.b0, c.b1, c.b2, c.g, c.t0, c.t1, c.t2, c.sc, c.rest, c.clip, c.hold, c.coast, c.out, c.band] 28) = w1 at HX HB ⊢
 generalize w.heap.size = b at HX ⊢
 have x11 := b_l HX 11 rfl
 have x12 := b_l HX 12 rfl
 have x13 := b_l HX 13 rfl
 have x14 := b_l HX 14 rfl
 have x15 := b_l HX 15 rfl
 have x16 := b_l HX 16 rfl
 go_wp2_with fail
 refine (may_any w1 _ _ _ _ _ _).mono ?_
 rintro e w2 ⟨rfl, hb⟩
 replace HX := b_b HX hb
 replace HB := b_s HB hb
 clear hb x11 x12 x13 x14 x15 x16
 obtain ⟨k, HK⟩ : ∃ k, Aside0 ((m1 c.f0 c.c0 && (m1 c.f1 c.c1 && m1 c.f2 c.c2)) = k) := ⟨_, ⟨rfl⟩⟩
 rw [HK.out]
 have x14 := b_l HX 14 rfl
 have x15 := b_l HX 15 rfl
 have x16 := b_l HX 16 rfl
 cases k with
 | true =>
  go_wp2_with fail
  refine (all_any w2 49 #[] c.c0 c.c1 c.c2 _ _ _ (fun _ _ => by kernel_rfl) (fun w' _ => (r49 w' 0 _).mono fun e w'' h => ⟨h.1, below_same h.2⟩) (fun w' _ => (r49 w' 1 _).mono fun e w'' h => ⟨h.1, below_same h.2⟩) (fun w' _ => (r49 w' 2 _).mono fun e w'' h => ⟨h.1, below_same h.2⟩)).mono ?_
  rintro e w3 ⟨rfl, hb⟩
  go_wp2_with fail
  go_ret
  exact ⟨by simp [HK.out], below_step HB.out hb⟩
 | false =>
  go_wp2_with fail
  go_ret
  exact ⟨by simp [HK.out], HB.out⟩
set_option maxRecDepth 100000 in
set_option maxHeartbeats 4000000 in
theorem rule60 (w : World) (c : Cf) : Calls Tryz.prog 60 #[.agg c.v] w fun e w' => e = .returned (.bool (within c.coast 1 c.out && decide (c.out ≤ 100000))) ∧ Below w.heap.size w w' := by
 unfold Cf.v
 have hmk := mk_func
 go_enter Tryz.func60, Tryz.ntmps60
 go_upto_region 1 with fail
 have HX := am (blk_new w (.cells #[c.q0, c.q1, c.q2, c.l0, c.l1, c.l2, c.r, c.rg, c.s0, c.s1, c.s2, c.f0, c.f1, c.f2, c.c0, c.c1, c.c2, c.b0, c.b1, c.b2, c.g, c.t0, c.t1, c.t2, c.sc, c.rest, c.clip, c.hold, c.coast, c.out, c.band] 28))
 have HB := am (below_alloc (Below.refl w.heap.size w) (.cells #[c.q0, c.q1, c.q2, c.l0, c.l1, c.l2, c.r, c.rg, c.s0, c.s1, c.s2, c.f0, c.f1, c.f2, c.c0, c.c1, c.c2, c.b0, c.b1, c.b2, c.g, c.t0, c.t1, c.t2, c.sc, c.rest, c.clip, c.hold, c.coast, c.out, c.band] 28))
 generalize w.alloc (.cells #[c.q0, c.q1, c.q2, c.l0, c.l1, c.l2, c.r, c.rg, c.s0, c.s1, c.s2, c.f0, c.f1, c.f2, c.c0, c.c1, c.c2, c.b0, c.b1, c.b2, c.g, c.t0, c.t1, c.t2, c.sc, c.rest, c.clip, c.hold, c.coast, c.out, c.band] 28) = w1 at HX HB ⊢
 generalize w.heap.size = b at HX ⊢
 have x28 := b_l HX 28 rfl
 have x29 := b_l HX 29 rfl
 go_wp2_with fail
 refine (within_any _ _ _ _).mono ?_
 rintro e w2 ⟨rfl, rfl⟩
 obtain ⟨k, HK⟩ : ∃ k, Aside0 (within c.coast 1 c.out = k) := ⟨_, ⟨rfl⟩⟩
 rw [HK.out]
 cases k with
 | false =>
  go_wp2_with fail
  go_ret
  exact ⟨by simp [HK.out], HB.out⟩
 | true =>
  go_wp2_with fail
  go_ret
  exact ⟨by simp [HK.out], HB.out⟩
end Go.Proofs.YtpdahkgandaabaaGreatDoor.Ch
namespace Go.Proofs.YtpdahkgandaabaaGreatDoor.Ch
open Go.RowKit Go.Proofs.YtpdahkgandaabaaGreatDoorW.PrintWords Go.Proofs.YtpdahkgandaabaaGreatDoorW.PrintLast Go.Proofs.YtpdahkgandaabaaGreatDoorW.PrintMore Go.Proofs.YtpdahkgandaabaaGreatDoor.PTopNames Go.Proofs.YtpdahkgandaabaaGreatDoor.Al
set_option linter.unusedVariables false
set_option linter.unusedSimpArgs false
structure G (w : World) : Prop where
 tab : Tab w
 none0 : w.cell? ⟨1, 0, none⟩ = some (.int .i64 0)
 none1 : w.cell? ⟨1, 1, none⟩ = some (.int .u64 0)
 rows : ∀ i : Fin 9, w.cell? ⟨2, i, none⟩ = some (.int .i64 ([32768, 256, -1, 0, 32768, -256, 0, 0, 32768].getD i 0))
 places : ∀ i : Fin 9, w.cell? ⟨3, i, none⟩ = some (.int .i64 ([0, 1, 2, 1, 3, 4, 2, 4, 5].getD i 0))
 least0 : w.cell? ⟨4, 0, none⟩ = some (.int .i64 (-9223372036854775808))
 least1 : w.cell? ⟨4, 1, none⟩ = some (.int .u64 0)
theorem cell_below {w w' : World} {a : Addr} {v : Value} (hb : Below w.heap.size w w') (h : w.cell? a = some v) : w'.cell? a = some v := (hb.cell (World.block_lt_of_cell? w _ h)).trans h
theorem G.below {w w' : World} (h : G w) (hb : Below w.heap.size w w') : G w' :=
 ⟨h.tab.below hb, cell_below hb h.none0, cell_below hb h.none1, fun i => cell_below hb (h.rows i), fun i => cell_below hb (h.places i), cell_below hb h.least0, cell_below hb h.least1⟩
theorem G.alloc {w : World} (h : G w) (o : Obj) : G (w.alloc o) := h.below (below_alloc (Below.refl _ _) o)
def Tells (F : Nat) (args : Array Value) (v : Value) : Prop := ∀ w, G w → Calls Tryz.prog F args w fun e w' => e = .returned v ∧ Below w.heap.size w w'
def two (x e : Int) : Value := .tuple #[x, e]
set_option maxRecDepth 100000 in
set_option maxHeartbeats 4000000 in
theorem same_tells (x : Int) : Tells 128 #[x] (two x 0) := fun w hG => (fix_same.calls x x 0 w rfl).mono fun e w' h => ⟨h.1, h.2.below⟩
set_option maxRecDepth 100000 in
set_option maxHeartbeats 4000000 in
theorem both_tells (a b : Int) (d : Nat) (hc : ∀ args w, (callFunc d args).run Tryz.prog w = .ok (.enter d args) w) (hd : ∃ x e, Tells d #[a, b] (two x e)) :
  ∃ x e, Tells 126 #[.int .i64 a, .int .i64 b, .func (.func d) #[] #[], .func (.func 128) #[] #[]] (two x e) := by
 obtain ⟨x0, e0, hd⟩ := hd
 have HD := am hd
 clear hd
 have HFA : ∀ w, Calls Tryz.prog 90 #[a] w fun e w' => e = .returned (.bool (fits a)) ∧ w' = w := fun w => fits_any w a
 have HFB : ∀ w, Calls Tryz.prog 90 #[b] w fun e w' => e = .returned (.bool (fits b)) ∧ w' = w := fun w => fits_any w b
 have HFX : ∀ w, Calls Tryz.prog 90 #[x0] w fun e w' => e = .returned (.bool (fits x0)) ∧ w' = w := fun w => fits_any w x0
 cases ha : fits a with
 | false =>
  rw [ha] at HFA
  refine ⟨0, 1, fun w hG => ?_⟩
  clear ha
  go_enter Tryz.func126, Tryz.ntmps126
  go_wp2_with fail
  refine (HFA w).mono ?_
  rintro e w1 ⟨rfl, rfl⟩
  go_wp2_with fail
  go_ret2
  exact ⟨rfl, Below.refl _ _⟩
 | true =>
  rw [ha] at HFA
  cases hb : fits b with
  | false =>
   rw [hb] at HFB
   refine ⟨0, 1, fun w hG => ?_⟩
   clear ha hb
   go_enter Tryz.func126, Tryz.ntmps126
   go_wp2_with fail
   refine (HFA w).mono ?_
   rintro e w1 ⟨rfl, rfl⟩
   go_wp2_with fail
   refine (HFB _).mono ?_
   rintro e w2 ⟨rfl, rfl⟩
   go_wp2_with fail
   go_ret2
   exact ⟨rfl, Below.refl _ _⟩
  | true =>
   rw [hb] at HFB
   by_cases h0 : e0 = 0
   ·
    subst h0
    cases hx : fits x0 with
    | false =>
     rw [hx] at HFX
     refine ⟨0, 3, fun w hG => ?_⟩
     have HG := am hG
     clear ha hb hx hG
     go_enter Tryz.func126, Tryz.ntmps126
     go_wp2_with fail
     refine (HFA w).mono ?_
     rintro e w1 ⟨rfl, rfl⟩
     go_wp2_with fail
     refine (HFB _).mono ?_
     rintro e w2 ⟨rfl, rfl⟩
     go_wp2_with fail
     refine (HD.out _ HG.out).mono ?_
     rintro e w3 ⟨rfl, hb⟩
     have HB := am hb
     clear hb
     unfold two
     go_wp2_with fail
     refine (same_tells x0 _ (HG.out.below HB.out)).mono ?_
     rintro e w4 ⟨rfl, hb⟩
     replace HB := b_s HB hb
     clear hb
     unfold two
     go_wp2_with fail
     refine (HFX _).mono ?_
     rintro e w5 ⟨rfl, rfl⟩
     go_wp2_with fail
     go_ret2
     exact ⟨rfl, HB.out⟩
    | true =>
     rw [hx] at HFX
     refine ⟨x0, 0, fun w hG => ?_⟩
     have HG := am hG
     clear ha hb hx hG
     go_enter Tryz.func126, Tryz.ntmps126
     go_wp2_with fail
     refine (HFA w).mono ?_
     rintro e w1 ⟨rfl, rfl⟩
     go_wp2_with fail
     refine (HFB _).mono ?_
     rintro e w2 ⟨rfl, rfl⟩
     go_wp2_with fail
     refine (HD.out _ HG.out).mono ?_
     rintro e w3 ⟨rfl, hb⟩
     have HB := am hb
     clear hb
     unfold two
     go_wp2_with fail
     refine (same_tells x0 _ (HG.out.below HB.out)).mono ?_
     rintro e w4 ⟨rfl, hb⟩
     replace HB := b_s HB hb
     clear hb
     unfold two
     go_wp2_with fail
     refine (HFX _).mono ?_
     rintro e w5 ⟨rfl, rfl⟩
     go_wp2_with fail
     go_ret2
     exact ⟨rfl, HB.out⟩
   refine ⟨0, e0, fun w hG => ?_⟩
   have HG := am hG
   have hq : (e0 == 0) = false := by simp [h0]
   have hn : decide (e0 = 0) = false := decide_eq_false h0
   clear ha hb hG
   go_enter Tryz.func126, Tryz.ntmps126
   go_wp2_with fail
   refine (HFA w).mono ?_
   rintro e w1 ⟨rfl, rfl⟩
   go_wp2_with fail
   refine (HFB _).mono ?_
   rintro e w2 ⟨rfl, rfl⟩
   go_wp2_with fail
   refine (HD.out _ HG.out).mono ?_
   rintro e w3 ⟨rfl, hb⟩
   have HB := am hb
   clear hb
   unfold two
   go_wp2_with fail
   go_ret2
   exact ⟨rfl, HB.out⟩
set_option maxRecDepth 100000 in
set_option maxHeartbeats 4000000 in
theorem sub1_tells (a b : Int) : Tells 127 #[a, b] (two (wrap64 (a - b)) 0) := fun w hG => by
 go_enter Tryz.func127, Tryz.ntmps127
 go_wp2_with fail
 go_ret2
 exact ⟨rfl, Below.refl _ _⟩
set_option maxRecDepth 100000 in
set_option maxHeartbeats 4000000 in
theorem add1_tells (a b : Int) : Tells 140 #[a, b] (two (wrap64 (a + b)) 0) := fun w hG => by
 go_enter Tryz.func140, Tryz.ntmps140
 go_wp2_with fail
 go_ret2
 exact ⟨rfl, Below.refl _ _⟩
set_option maxRecDepth 100000 in
set_option maxHeartbeats 4000000 in
theorem sub_tells (a b : Int) : ∃ x e, Tells 95 #[a, b] (two x e) := by
 obtain ⟨x, e, h⟩ := both_tells a b 127 (fun _ _ => by kernel_rfl) ⟨_, _, sub1_tells a b⟩
 refine ⟨x, e, fun w hG => ?_⟩
 have H := am (h w hG)
 clear h hG
 go_enter Tryz.func95, Tryz.ntmps95
 go_wp2_with fail
 refine H.out.mono ?_
 rintro e w1 ⟨rfl, hb⟩
 unfold two
 go_wp2_with fail
 go_ret2
 exact ⟨rfl, hb⟩
set_option maxRecDepth 100000 in
set_option maxHeartbeats 4000000 in
theorem add_tells (a b : Int) : ∃ x e, Tells 105 #[a, b] (two x e) := by
 obtain ⟨x, e, h⟩ := both_tells a b 140 (fun _ _ => by kernel_rfl) ⟨_, _, add1_tells a b⟩
 refine ⟨x, e, fun w hG => ?_⟩
 have H := am (h w hG)
 clear h hG
 go_enter Tryz.func105, Tryz.ntmps105
 go_wp2_with fail
 refine H.out.mono ?_
 rintro e w1 ⟨rfl, hb⟩
 unfold two
 go_wp2_with fail
 go_ret2
 exact ⟨rfl, hb⟩
end Go.Proofs.YtpdahkgandaabaaGreatDoor.Ch
