/- A part of the proof of the law TopNone of the top, where the package's tables hold what their initialisers lay. -/
import Derived.Deep.WholeRow
import Derived.Deep.MidRow
import Derived.Test.YtpdahkgandaabaaGreatDoorS01
import Derived.Test.YtpdahkgandaabaaGreatDoorS02
import Derived.Test.YtpdahkgandaabaaGreatDoorS03
import Derived.Test.YtpdahkgandaabaaGreatDoorS06
import Derived.Test.YtpdahkgandaabaaGreatDoorS08
import Derived.Test.YtpdahkgandaabaaGreatDoorS10
namespace Go.Proofs.YtpdahkgandaabaaGreatDoor.Ch
open Go.RowKit Go.Proofs.YtpdahkgandaabaaGreatDoorW.PrintWords Go.Proofs.YtpdahkgandaabaaGreatDoorW.PrintLast Go.Proofs.YtpdahkgandaabaaGreatDoorW.PrintMore Go.Proofs.YtpdahkgandaabaaGreatDoor.PTopNames Go.Proofs.YtpdahkgandaabaaGreatDoor.Al
set_option linter.unusedVariables false
set_option linter.unusedSimpArgs false
theorem cut1_ {P : Nat → World → Prop} (C : Nat → World → Prop) {R : Prop} (h1 : (∀ b w, C b w → P b w) → R) (h2 : ∀ b w, C b w → P b w) : R := h1 h2
def r3k (x0 x1 x2 : Int) (k : Nat) : Int := if k = 0 then x0 else if k = 1 then x1 else x2
set_option maxRecDepth 100000 in
set_option maxHeartbeats 4000000 in
theorem dstep1 (k0 k1 k2 j : Int) (bk bj : Nat) (x r e : Int) (hm : Tells 116 #[.int .i64 x, .int .i64 (r3k k0 k1 k2 j.toNat)] (Ch.two r e))  (w : World) (hG : G w) (hk : w.heap[bk]? = some (.cells #[.int .i64 k0, .int .i64 k1, .int .i64 k2] 26 (0, 0))) (hj : w.heap[bj]? = some (.cells #[.int .i64 j] 3 (0, 0))) (j0 : 0 ≤ j) (j3 : j < 3) :
  Calls Tryz.prog 115 #[.int .i64 x, .pointer (some ⟨bk, 0, none⟩), .pointer (some ⟨bj, 0, none⟩)] w fun e' w' => e' = .returned (Ch.two r e) ∧ Below w.heap.size w w' := by
 have HM := am hm
 have HG := am hG
 clear hm hG
 unfold Ch.two at *
 have yk : w.cell? ⟨bk, j.toNat, none⟩ = some (.int .i64 (r3k k0 k1 k2 j.toNat)) := by
  refine (blk_cell hk _).trans ?_
  obtain rfl | rfl | rfl : j = 0 ∨ j = 1 ∨ j = 2 := by omega
  all_goals rfl
 have yj := bcv hj 0 (.int .i64 j) rfl
 clear hk hj
 go_enter Tryz.func115, Tryz.ntmps115
 go_wp2_with fail
 refine (HM.out w HG.out).mono ?_
 rintro e' w1 ⟨rfl, hb⟩
 go_wp2_with fail
 go_ret2
 exact ⟨rfl, hb⟩
set_option maxRecDepth 100000 in
set_option maxHeartbeats 4000000 in
theorem dstep2 (y : Int) (bs : Nat) (x r e : Int) (hm : Tells 116 #[.int .i64 x, .int .i64 y] (Ch.two r e))  (w : World) (hG : G w) (hs : w.heap[bs]? = some (.cells #[.int .i64 y] 2 (0, 0))) :
  Calls Tryz.prog 117 #[.int .i64 x, .pointer (some ⟨bs, 0, none⟩)] w fun e' w' => e' = .returned (Ch.two r e) ∧ Below w.heap.size w w' := by
 have HM := am hm
 have HG := am hG
 clear hm hG
 unfold Ch.two at *
 have ys := bcv hs 0 (.int .i64 y) rfl
 clear hs
 go_enter Tryz.func117, Tryz.ntmps117
 go_wp2_with fail
 refine (HM.out w HG.out).mono ?_
 rintro e' w1 ⟨rfl, hb⟩
 go_wp2_with fail
 go_ret2
 exact ⟨rfl, hb⟩
set_option maxRecDepth 100000 in
set_option maxHeartbeats 4000000 in
theorem dstep3 (y : Int) (bs : Nat) (x r e : Int) (hm : Tells 95 #[.int .i64 x, .int .i64 y] (Ch.two r e))  (w : World) (hG : G w) (hs : w.heap[bs]? = some (.cells #[.int .i64 y] 2 (0, 0))) :
  Calls Tryz.prog 119 #[.int .i64 x, .pointer (some ⟨bs, 0, none⟩)] w fun e' w' => e' = .returned (Ch.two r e) ∧ Below w.heap.size w w' := by
 have HM := am hm
 have HG := am hG
 clear hm hG
 unfold Ch.two at *
 have ys := bcv hs 0 (.int .i64 y) rfl
 clear hs
 go_enter Tryz.func119, Tryz.ntmps119
 go_wp2_with fail
 refine (HM.out w HG.out).mono ?_
 rintro e' w1 ⟨rfl, hb⟩
 go_wp2_with fail
 go_ret2
 exact ⟨rfl, hb⟩
set_option maxRecDepth 100000 in
set_option maxHeartbeats 4000000 in
theorem dstep4 (y : Int) (bs : Nat) (x r e : Int) (hm : Tells 105 #[.int .i64 x, .int .i64 y] (Ch.two r e))  (w : World) (hG : G w) (hs : w.heap[bs]? = some (.cells #[.int .i64 y] 2 (0, 0))) :
  Calls Tryz.prog 120 #[.int .i64 x, .pointer (some ⟨bs, 0, none⟩)] w fun e' w' => e' = .returned (Ch.two r e) ∧ Below w.heap.size w w' := by
 have HM := am hm
 have HG := am hG
 clear hm hG
 unfold Ch.two at *
 have ys := bcv hs 0 (.int .i64 y) rfl
 clear hs
 go_enter Tryz.func120, Tryz.ntmps120
 go_wp2_with fail
 refine (HM.out w HG.out).mono ?_
 rintro e' w1 ⟨rfl, hb⟩
 go_wp2_with fail
 go_ret2
 exact ⟨rfl, hb⟩
def stepsV (x2 e1 e2 : Int) : Int := if e1 = 0 then (if e2 = 0 then x2 else 0) else 0
def stepsE (e1 e2 : Int) : Int := if e1 = 0 then e2 else e1
set_option maxRecDepth 100000 in
set_option maxHeartbeats 4000000 in
theorem steps_any (w : World) (x x1 e1 x2 e2 : Int) (F1 F2 : Nat) (c1 c2 : Array Value) (hc1 : ∀ args w, (callFunc F1 args).run Tryz.prog w = .ok (.enter F1 args) w) (hc2 : ∀ args w, (callFunc F2 args).run Tryz.prog w = .ok (.enter F2 args) w) (b : Nat)
  (hb : w.heap[b]? = some (.cells #[.func (.func F1) #[] c1, .func (.func F2) #[] c2] 106 (0, 0)))
  (h1 : Calls Tryz.prog F1 (#[.int .i64 x] ++ c1) w fun e w' => e = .returned (Ch.two x1 e1) ∧ Below w.heap.size w w')
  (h2 : ∀ w', Below w.heap.size w w' → Calls Tryz.prog F2 (#[.int .i64 x1] ++ c2) w' fun e w'' => e = .returned (Ch.two x2 e2) ∧ Below w'.heap.size w' w'') :
  Calls Tryz.prog 114 #[.int .i64 x, .slice (some ⟨b, 0, none⟩) 2 2] w fun e w' => e = .returned (Ch.two (stepsV x2 e1 e2) (stepsE e1 e2)) ∧ Below w.heap.size w w' := by
 have H1 := am h1
 have H2 := am h2
 have HB0 := am hb
 have y0 := bcv hb 0 (.func (.func F1) #[] c1) rfl
 clear h1 h2 hb
 unfold Ch.two at *
 go_enter Tryz.func114, Tryz.ntmps114
 go_wp2_with fail
 refine wp_unroll (fun K hK => ?_)
 have HK := am hK
 clear hK
 go_wp2_with fail
 refine H1.out.mono ?_
 rintro e w1 ⟨rfl, hb⟩
 have HB := am hb
 replace HB0 := am (blk_below HB0.out hb)
 clear hb y0
 by_cases h1 : e1 = 0
 ·
  subst h1
  have y1 := bcv HB0.out 1 (.func (.func F2) #[] c2) rfl
  go_wp2_with fail
  refine HK.out _ _ ?_
  go_wp2_with fail
  refine (H2.out w1 HB.out).mono ?_
  rintro e w2 ⟨rfl, hb⟩
  replace HB := am (below_step HB.out hb)
  clear hb y1
  by_cases h2 : e2 = 0
  ·
   subst h2
   go_wp2_with fail
   refine HK.out _ _ ?_
   go_wp2_with fail
   go_ret2
   exact ⟨by simp [stepsV, stepsE], HB.out⟩
  ·
   have q1 : (e2 == 0) = false := by simp [h2]
   have q2 : decide (e2 = 0) = false := decide_eq_false h2
   have HN := am h2
   clear h2
   go_wp2_with fail
   go_ret2
   exact ⟨by simp [stepsV, stepsE, HN.out], HB.out⟩
 ·
  have q1 : (e1 == 0) = false := by simp [h1]
  have q2 : decide (e1 = 0) = false := decide_eq_false h1
  have HN := am h1
  clear h1
  go_wp2_with fail
  go_ret2
  exact ⟨by simp [stepsV, stepsE, HN.out], HB.out⟩
def sq (x : Int) : Int × Int := (bits_Mul64.f x x).getD (0, 0)
theorem sq_f (x : Int) : bits_Mul64.f x x = some ((sq x).1, (sq x).2) := by
 obtain ⟨a, b, h, _⟩ := mul64_f x x
 unfold sq
 rw [h]
 rfl
def rtX (r : Int) (k : Nat) : Int := Go.bits .or .u64 r (IntKind.u64.wrap (2 ^ (63 - k)))
def rtN (h l : Int) : Nat → Int
 | 0 => 0
 | k + 1 => if (decide (IntKind.u64.wrap h < (sq (rtX (rtN h l k) k)).1) || ((sq (rtX (rtN h l k) k)).1 == IntKind.u64.wrap h && decide (l < (sq (rtX (rtN h l k) k)).2))) = true then rtN h l k else rtX (rtN h l k) k
set_option maxRecDepth 100000 in
set_option maxHeartbeats 4000000 in
theorem rootof_tells (h l : Int) : ∃ r e, Tells 155 #[wide h l] (.tuple #[.int .u64 r, .int .i64 e]) := by
 by_cases h0 : h < 0
 ·
  have d0 : decide (h < 0) = true := decide_eq_true h0
  refine ⟨0, 1, fun w hG => ?_⟩
  have HG := am hG
  clear hG
  unfold wide
  go_enter Tryz.func155, Tryz.ntmps155
  go_wp2
  go_step3
  go_upto_region 1 with fail
  have HX := am (blk_new w (.cells #[.int .i64 h, .int .u64 l] 124))
  have HB := am (below_alloc (Below.refl w.heap.size w) (.cells #[.int .i64 h, .int .u64 l] 124))
  generalize w.alloc (.cells #[.int .i64 h, .int .u64 l] 124) = w1 at HX HB ⊢
  obtain ⟨b1, h1⟩ : ∃ b, b = w.heap.size := ⟨_, rfl⟩
  have g1 : w.heap.size ≤ b1 := by omega
  rw [← h1] at HX ⊢
  clear h1
  have y0 := bcv HX.out 0 (.int .i64 h) rfl
  go_wp2_with fail
  rw [Exit.noGoto_ret]
  go_ret2
  exact ⟨rfl, HB.out⟩
 ·
  have d0 : decide (h < 0) = false := decide_eq_false h0
  refine ⟨rtN h l 64, 0, fun w hG => ?_⟩
  clear h0
  have HG := am hG
  clear hG
  unfold wide
  go_enter Tryz.func155, Tryz.ntmps155
  go_wp2
  go_step3
  go_upto_region 1 with fail
  have HX := am (blk_new w (.cells #[.int .i64 h, .int .u64 l] 124))
  have HB := am (below_alloc (Below.refl w.heap.size w) (.cells #[.int .i64 h, .int .u64 l] 124))
  generalize w.alloc (.cells #[.int .i64 h, .int .u64 l] 124) = w1 at HX HB ⊢
  obtain ⟨b1, h1⟩ : ∃ b, b = w.heap.size := ⟨_, rfl⟩
  have g1 : w.heap.size ≤ b1 := by omega
  rw [← h1] at HX ⊢
  clear h1
  have y0 := bcv HX.out 0 (.int .i64 h) rfl
  go_wp2_with fail
  go_step3
  go_wp2_with fail
  go_loopw [4, 5] (fun v4 v5 wr => ∃ k : Nat, k ≤ 64 ∧ v4 = .int .u64 (rtN h l k) ∧ v5 = .int .i64 (63 - (k : Int)) ∧ Aside0 (wr.heap[b1]? = some (.cells #[.int .i64 h, .int .u64 l] 124 (0, 0))) ∧ Aside0 (Below w.heap.size w wr)) (fun _ v5 _ => (64 + intOf v5).toNat)
  case atStart => exact ⟨0, by omega, rfl, rfl, HX, HB⟩
  case round =>
   clear HX HB
   obtain ⟨k, hk, rfl, rfl, HX, HB⟩ := hrel
   by_cases hlt : k < 64
   ·
    have q0 : decide (0 ≤ 63 - (k : Int)) = true := decide_eq_true (by omega)
    have hrn : rtN h l (k + 1) = if (decide (IntKind.u64.wrap h < (sq (rtX (rtN h l k) k)).1) || ((sq (rtX (rtN h l k) k)).1 == IntKind.u64.wrap h && decide (l < (sq (rtX (rtN h l k) k)).2))) = true then rtN h l k else rtX (rtN h l k) k := rfl
    generalize rtN h l k = rk at hrn ⊢
    obtain ⟨x, hx⟩ : ∃ x, x = rtX rk k := ⟨_, rfl⟩
    rw [← hx] at hrn
    unfold rtX at hx
    go_upto_region 8 with fail
    rw [← hx]
    clear hx
    have hs := sq_f x
    generalize sq x = q at hs hrn
    obtain ⟨qh, ql⟩ := q
    have HRN0 := am hrn
    have HS := am hs
    clear hrn hs
    go_wp2_with fail
    refine (bits_Mul64.calls x x qh ql wr HS.out).mono ?_
    rintro e w2 ⟨rfl, hd⟩
    replace HX := am (blk_below HX.out hd.below)
    replace HB := am (below_step HB.out hd.below)
    clear hd
    have y0 := bcv HX.out 0 (.int .i64 h) rfl
    have y1 := bcv HX.out 1 (.int .u64 l) rfl
    by_cases c1 : IntKind.u64.wrap h < qh
    ·
     have p1 : decide (IntKind.u64.wrap h < qh) = true := decide_eq_true c1
     have HRN := am (show rtN h l (k + 1) = rk by rw [HRN0.out]; simp [p1])
     go_wp2_with fail
     go_roundw
     case rel => exact ⟨k + 1, hlt, by rw [HRN.out], by congr 1; omega, ⟨HX.out⟩, ⟨HB.out⟩⟩
     case measure =>
      show (64 + (63 - (k : Int) - 1)).toNat < (64 + (63 - (k : Int))).toNat
      omega
    ·
     have p1 : decide (IntKind.u64.wrap h < qh) = false := decide_eq_false c1
     by_cases c2 : qh = IntKind.u64.wrap h
     ·
      have p2 : (qh == IntKind.u64.wrap h) = true := by simp [c2]
      have p2' : decide (qh = IntKind.u64.wrap h) = true := decide_eq_true c2
      by_cases c3 : l < ql
      ·
       have p3 : decide (l < ql) = true := decide_eq_true c3
       have HRN := am (show rtN h l (k + 1) = rk by rw [HRN0.out]; simp [p1, p2, p3])
       go_wp2_with fail
       go_roundw
       case rel => exact ⟨k + 1, hlt, by rw [HRN.out], by congr 1; omega, ⟨HX.out⟩, ⟨HB.out⟩⟩
       case measure =>
        show (64 + (63 - (k : Int) - 1)).toNat < (64 + (63 - (k : Int))).toNat
        omega
      ·
       have p3 : decide (l < ql) = false := decide_eq_false c3
       have HRN := am (show rtN h l (k + 1) = x by rw [HRN0.out]; simp [p1, p2, p3])
       go_wp2_with fail
       go_roundw
       case rel => exact ⟨k + 1, hlt, by rw [HRN.out], by congr 1; omega, ⟨HX.out⟩, ⟨HB.out⟩⟩
       case measure =>
        show (64 + (63 - (k : Int) - 1)).toNat < (64 + (63 - (k : Int))).toNat
        omega
     ·
      have p2 : (qh == IntKind.u64.wrap h) = false := by simp [c2]
      have p2' : decide (qh = IntKind.u64.wrap h) = false := decide_eq_false c2
      have HRN := am (show rtN h l (k + 1) = x by rw [HRN0.out]; simp [p1, p2])
      go_wp2_with fail
      go_roundw
      case rel => exact ⟨k + 1, hlt, by rw [HRN.out], by congr 1; omega, ⟨HX.out⟩, ⟨HB.out⟩⟩
      case measure =>
       show (64 + (63 - (k : Int) - 1)).toNat < (64 + (63 - (k : Int))).toNat
       omega
   ·
    have q0 : decide (0 ≤ 63 - (k : Int)) = false := decide_eq_false (by omega)
    obtain rfl : k = 64 := by omega
    obtain ⟨rk, hrk⟩ : ∃ rk, rk = rtN h l 64 := ⟨_, rfl⟩
    rw [← hrk]
    go_wp2_with fail
    rw [Exit.noGoto_ret]
    go_ret2
    exact ⟨by rw [← hrk]; rfl, HB.out⟩
set_option maxRecDepth 100000 in
set_option maxHeartbeats 4000000 in
theorem rmean_tells (x y : Int) : ∃ r, Tells 139 #[.int .i64 x, .int .i64 y] (.int .i64 r) := by
 obtain ⟨h, l, hu, hm⟩ := mul_tells x y
 obtain ⟨r, e0, hr⟩ := rootof_tells h l
 have HM := am hm
 have HR := am hr
 clear hm hr hu
 by_cases c1 : x < 0
 ·
  have p1 : decide (x < 0) = true := decide_eq_true c1
  refine ⟨0, fun w hG => ?_⟩
  have HG := am hG
  clear hG
  go_enter Tryz.func139, Tryz.ntmps139
  go_wp2_with fail
  go_ret
  exact ⟨rfl, Below.refl _ _⟩
 ·
  have p1 : decide (x < 0) = false := decide_eq_false c1
  by_cases c2 : y < 0
  ·
   have p2 : decide (y < 0) = true := decide_eq_true c2
   refine ⟨0, fun w hG => ?_⟩
   have HG := am hG
   clear hG
   go_enter Tryz.func139, Tryz.ntmps139
   go_wp2_with fail
   go_ret
   exact ⟨rfl, Below.refl _ _⟩
  ·
   have p2 : decide (y < 0) = false := decide_eq_false c2
   refine ⟨wrap64 r, fun w hG => ?_⟩
   have HG := am hG
   clear hG
   go_enter Tryz.func139, Tryz.ntmps139
   go_wp2_with fail
   refine (HM.out w HG.out).mono ?_
   rintro e w1 ⟨rfl, hb⟩
   have HB := am hb
   clear hb
   unfold wide at HR ⊢
   go_wp2_with fail
   refine (HR.out w1 (HG.out.below HB.out)).mono ?_
   rintro e w2 ⟨rfl, hb⟩
   replace HB := am (below_step HB.out hb)
   clear hb
   go_wp2_with fail
   go_ret
   exact ⟨rfl, HB.out⟩
end Go.Proofs.YtpdahkgandaabaaGreatDoor.Ch
namespace Go.Proofs.YtpdahkgandaabaaGreatDoor.Ch
open Go.RowKit Go.Proofs.YtpdahkgandaabaaGreatDoorW.PrintWords Go.Proofs.YtpdahkgandaabaaGreatDoorW.PrintLast Go.Proofs.YtpdahkgandaabaaGreatDoorW.PrintMore Go.Proofs.YtpdahkgandaabaaGreatDoor.PTopNames
set_option linter.unusedVariables false
set_option linter.unusedSimpArgs false
def R : Array Value := #[.int .i64 1, .func (.func 39) #[] #[], .int .i64 2, .func (.func 43) #[] #[], .int .i64 3, .func (.func 45) #[] #[], .int .i64 4, .func (.func 46) #[] #[], .int .i64 5, .func (.func 47) #[] #[], .int .i64 6, .func (.func 50) #[] #[], .int .i64 7, .func (.func 52) #[] #[], .int .i64 8, .func (.func 54) #[] #[], .int .i64 9, .func (.func 55) #[] #[], .int .i64 10, .func (.func 57) #[] #[], .int .i64 11, .func (.func 58) #[] #[], .int .i64 12, .func (.func 59) #[] #[], .int .i64 13, .func (.func 60) #[] #[], .int .i64 14, .func (.func 61) #[] #[]]
def Z : Array Value := #[.int .i64 0, .nilFunc, .int .i64 0, .nilFunc, .int .i64 0, .nilFunc, .int .i64 0, .nilFunc, .int .i64 0, .nilFunc, .int .i64 0, .nilFunc, .int .i64 0, .nilFunc, .int .i64 0, .nilFunc, .int .i64 0, .nilFunc, .int .i64 0, .nilFunc, .int .i64 0, .nilFunc, .int .i64 0, .nilFunc, .int .i64 0, .nilFunc, .int .i64 0, .nilFunc]
set_option maxRecDepth 100000 in
set_option maxHeartbeats 4000000 in
theorem rules_any (w : World) : Calls Tryz.prog 19 #[] w fun e w' => e = .returned (.agg R) ∧ Below w.heap.size w w' := by
 have HB := am (below_alloc (Below.refl w.heap.size w) (.cells R 70))
 go_enter Tryz.func19, Tryz.ntmps19
 go_upto_region 1 with fail
 iterate 47 go_step
 refine wp_store_row 70 (.tmp 0) (.tmp 15) rfl w.heap.size R rfl rfl 70 Z (heap_alloc_last w _) (by kernel_rfl) (by kernel_rfl) (by kernel_rfl) ?_
 rw [show (w.alloc (.cells #[.int .i64 0, .nilFunc, .int .i64 0, .nilFunc, .int .i64 0, .nilFunc, .int .i64 0, .nilFunc, .int .i64 0, .nilFunc, .int .i64 0, .nilFunc, .int .i64 0, .nilFunc, .int .i64 0, .nilFunc, .int .i64 0, .nilFunc, .int .i64 0, .nilFunc, .int .i64 0, .nilFunc, .int .i64 0, .nilFunc, .int .i64 0, .nilFunc, .int .i64 0, .nilFunc] 70)).setRow w.heap.size R = w.alloc (.cells R 70) from World.setRow_alloc_new w _ _ _]
 go_wp2_with fail
 refine bodyPost_ret (v := .agg R) ?_ rfl ⟨rfl, HB.out⟩
 exact results_cell_row rfl _ _ w.heap.size 70 R (0, 0) _ rfl (heap_alloc_last w _) Tryz.underlying70 rfl (by kernel_rfl)
def ruleB (c : Cf) : Nat → Bool
 | 0 => within c.q0 0 1125899906842624 && (within c.q1 0 1125899906842624 && within c.q2 0 1125899906842624)
 | 1 => within c.l0 c.q0 1125899906842624 && (within c.l1 c.q1 1125899906842624 && within c.l2 c.q2 1125899906842624)
 | 2 => within c.r 274877906944 1125899906842624
 | 3 => within c.rg c.r 1125899906842624
 | 4 => (m1 c.f0 c.c0 && (m1 c.f1 c.c1 && m1 c.f2 c.c2)) && (decide (c.c0 ≤ 72057594037927936) && (decide (c.c1 ≤ 72057594037927936) && decide (c.c2 ≤ 72057594037927936)))
 | 5 => within c.s0 c.f0 c.c0 && (within c.s1 c.f1 c.c1 && within c.s2 c.f2 c.c2)
 | 6 => (within c.b0 0 72057594037927936 && (within c.b1 0 72057594037927936 && within c.b2 0 72057594037927936)) && decide (18014398509481984 ≤ c.b0)
 | 7 => within c.g 1 1000
 | 8 => (within c.t0 (-4398046511104) 4398046511104 && (within c.t1 (-4398046511104) 4398046511104 && within c.t2 (-4398046511104) 4398046511104)) && within c.t0 0 1099511627776
 | 9 => within c.sc 1 1099511627776
 | 10 => (within c.clip 1 131072 && decide (wrap64 (-c.clip) < c.rest)) && decide (c.rest < c.clip)
 | 11 => within c.hold 0 1000
 | 12 => within c.coast 1 c.out && decide (c.out ≤ 100000)
 | 13 => within c.band 0 400000
 | _ => true
def firstOf (c : Cf) : Nat → Nat → Int
 | 0, _ => 0
 | n + 1, k => if ruleB c k then firstOf c n (k + 1) else (k : Int) + 1
def checkR (c : Cf) : Int := firstOf c 14 0
@[local go_sem] theorem run_store_func {P : Program} {w : World} {a : Addr} {m : Mode} (f : Fn) (x y : Array Value) : (store a (.func f x y) m).run P w = stored P w a (.func f x y) m := run_store P w a _ m rfl
theorem first_at (c : Cf) (m : Nat) (hm : ruleB c m = false) : ∀ n k, k ≤ m → m < k + n → (∀ j, k ≤ j → j < m → ruleB c j = true) → firstOf c n k = (m : Int) + 1
 | 0, k, h1, h2, _ => by omega
 | n + 1, k, h1, h2, h => by
  unfold firstOf
  rcases Nat.eq_or_lt_of_le h1 with e | hlt
  ·
   subst e
   rw [hm]
   rfl
  ·
   rw [h k (Nat.le_refl _) hlt, if_pos rfl]
   exact first_at c m hm n (k + 1) hlt (by omega) (fun j hj => h j (by omega))
theorem first_none (c : Cf) : ∀ n k, (∀ j, k ≤ j → j < k + n → ruleB c j = true) → firstOf c n k = 0
 | 0, _, _ => rfl
 | n + 1, k, h => by
  unfold firstOf
  rw [h k (Nat.le_refl _) (by omega), if_pos rfl]
  exact first_none c n (k + 1) (fun j h1 h2 => h j (by omega) (by omega))
theorem upto_next {c : Cf} {k : Nat} (h : ∀ j, j < k → ruleB c j = true) (hk : ruleB c k = true) : ∀ j, j < k + 1 → ruleB c j = true := fun j hj => by
 rcases Nat.eq_or_lt_of_le (Nat.le_of_lt_succ hj) with e | hlt
 ·
  rw [e]
  exact hk
 ·
  exact h j hlt
theorem wp_load_whole {P : Program} {op : Oper} {a : Act} {w : World} {K : Act → World → Prop} {Q : Exit → Act → World → Prop} (ty : TypeId) (x : Operand) (ho : op.op = .load ty x)
  (b : Nat) (t : TypeId) (cs : Array Value) (fr : Nat × Nat) (hx : a.eval x = .pointer (some ⟨b, 0, none⟩)) (hg : w.heap[b]? = some (.cells cs t fr)) (d : TypeDesc)
  (hu : P.underlying ty = some d) (hd : (match d with | .struct _ | .array _ _ => true | _ => false) = true) (hi : (P.info? ty).map (·.size) = some cs.size)
  (h : K (a.put op.dst (.agg cs)) w) : op.wp P a w K Q := by
 unfold Oper.wp execOp
 simp only [ho, hx, Instr.loadAt, Instr.sureAddr, Sem.run_bind, Sem.run_pure, Result.andThen_ok, run_loadVar_row w b t ty cs fr d hg hu hd hi]
 exact h
set_option maxRecDepth 100000 in
set_option maxHeartbeats 40000000 in
theorem check_any (w : World) (c : Cf) : Calls Tryz.prog 7 #[.agg c.v] w fun e w' => e = .returned (.int .i64 (checkR c)) ∧ Below w.heap.size w w' := by
 go_enter Tryz.func7, Tryz.ntmps7
 go_upto_region 1 with fail
 have HX := am (blk_new w (.cells c.v 28))
 have HB := am (below_alloc (Below.refl w.heap.size w) (.cells c.v 28))
 generalize w.alloc (.cells c.v 28) = w1 at HX HB ⊢
 obtain ⟨b, hb⟩ : ∃ b, b = w.heap.size := ⟨_, rfl⟩
 rw [← hb] at HX ⊢
 clear hb
 go_wp2_with fail
 refine (rules_any w1).mono ?_
 rintro e w2 ⟨rfl, hb⟩
 replace HX := am (blk_below HX.out hb)
 replace HB := am (below_step HB.out hb)
 clear hb
 have HR := am (Below.refl w2.heap.size w2)
 go_wp2_with fail
 go_loopw [6] (fun v6 wr => ∃ k : Nat, k ≤ 14 ∧ v6 = .int .i64 k ∧ Aside0 (Below w2.heap.size w2 wr) ∧ Aside0 (∀ j, j < k → ruleB c j = true)) (fun v6 _ => 15 - (intOf v6).toNat)
 case atStart => exact ⟨0, by omega, rfl, HR, ⟨fun j hj => by omega⟩⟩
 case round =>
  clear HR
  obtain ⟨k, hk, rfl, HR, HK⟩ := hrel
  have hk4 : k = 0 ∨ k = 1 ∨ k = 2 ∨ k = 3 ∨ k = 4 ∨ k = 5 ∨ k = 6 ∨ k = 7 ∨ k = 8 ∨ k = 9 ∨ k = 10 ∨ k = 11 ∨ k = 12 ∨ k = 13 ∨ k = 14 := by omega
  clear hk
  rcases hk4 with rfl | rfl | rfl | rfl | rfl | rfl | rfl | rfl | rfl | rfl | rfl | rfl | rfl | rfl | rfl
  ·
   have ik : ∀ w, (Instr.index 70 (.agg R) (.int .i64 0)).run Tryz.prog w = .ok (.agg #[.int .i64 1, .func (.func 39) #[] #[]]) w := fun _ => by kernel_rfl
   have hcast : ((0 : Nat) : Int) = 0 := rfl
   go_upto_region 4 with fail
   have HA := am (blk_new wr (.cells #[.int .i64 1, .func (.func 39) #[] #[]] 69))
   have HQ := am (blk_alloc (blk_below HX.out HR.out) (.cells #[.int .i64 1, .func (.func 39) #[] #[]] 69))
   replace HR := am (below_alloc HR.out (.cells #[.int .i64 1, .func (.func 39) #[] #[]] 69))
   generalize wr.alloc (.cells #[.int .i64 1, .func (.func 39) #[] #[]] 69) = wq at HA HQ HR ⊢
   generalize wr.heap.size = a at HA ⊢
   have y1 := bcv HA.out 1 (.func (.func 39) #[] #[]) rfl
   iterate 8 go_step
   refine wp_load_whole 28 (.tmp 1) rfl b 28 c.v (0, 0) rfl HQ.out _ Tryz.underlying28 rfl (by kernel_rfl) ?_
   clear y1
   go_wp2_with fail
   refine (show Calls Tryz.prog 39 #[.agg c.v] wq fun e w' => e = .returned (.bool (ruleB c 0)) ∧ Below wq.heap.size wq w' from rule39 wq c).mono ?_
   rintro e w3 ⟨rfl, hb⟩
   replace HR := am (below_step HR.out hb)
   replace HA := am (blk_below HA.out hb)
   clear hb HQ
   obtain ⟨q, HV⟩ : ∃ q, Aside0 (ruleB c 0 = q) := ⟨_, ⟨rfl⟩⟩
   rw [HV.out]
   cases q with
   | true =>
    go_wp2_with fail
    go_roundw
    case rel => exact ⟨1, by decide, rfl, HR, ⟨upto_next HK.out HV.out⟩⟩
    case measure => decide
   | false =>
    have y0 := bcv HA.out 0 (.int .i64 1) rfl
    go_wp2_with fail
    go_ret
    exact ⟨congrArg (fun z => Ending.returned (.int .i64 z)) (first_at c 0 HV.out 14 0 (by decide) (by decide) (fun j _ hj => HK.out j hj)).symm, below_step HB.out HR.out⟩
  ·
   have ik : ∀ w, (Instr.index 70 (.agg R) (.int .i64 1)).run Tryz.prog w = .ok (.agg #[.int .i64 2, .func (.func 43) #[] #[]]) w := fun _ => by kernel_rfl
   have hcast : ((1 : Nat) : Int) = 1 := rfl
   go_upto_region 4 with fail
   have HA := am (blk_new wr (.cells #[.int .i64 2, .func (.func 43) #[] #[]] 69))
   have HQ := am (blk_alloc (blk_below HX.out HR.out) (.cells #[.int .i64 2, .func (.func 43) #[] #[]] 69))
   replace HR := am (below_alloc HR.out (.cells #[.int .i64 2, .func (.func 43) #[] #[]] 69))
   generalize wr.alloc (.cells #[.int .i64 2, .func (.func 43) #[] #[]] 69) = wq at HA HQ HR ⊢
   generalize wr.heap.size = a at HA ⊢
   have y1 := bcv HA.out 1 (.func (.func 43) #[] #[]) rfl
   iterate 8 go_step
   refine wp_load_whole 28 (.tmp 1) rfl b 28 c.v (0, 0) rfl HQ.out _ Tryz.underlying28 rfl (by kernel_rfl) ?_
   clear y1
   go_wp2_with fail
   refine (show Calls Tryz.prog 43 #[.agg c.v] wq fun e w' => e = .returned (.bool (ruleB c 1)) ∧ Below wq.heap.size wq w' from rule43 wq c).mono ?_
   rintro e w3 ⟨rfl, hb⟩
   replace HR := am (below_step HR.out hb)
   replace HA := am (blk_below HA.out hb)
   clear hb HQ
   obtain ⟨q, HV⟩ : ∃ q, Aside0 (ruleB c 1 = q) := ⟨_, ⟨rfl⟩⟩
   rw [HV.out]
   cases q with
   | true =>
    go_wp2_with fail
    go_roundw
    case rel => exact ⟨2, by decide, rfl, HR, ⟨upto_next HK.out HV.out⟩⟩
    case measure => decide
   | false =>
    have y0 := bcv HA.out 0 (.int .i64 2) rfl
    go_wp2_with fail
    go_ret
    exact ⟨congrArg (fun z => Ending.returned (.int .i64 z)) (first_at c 1 HV.out 14 0 (by decide) (by decide) (fun j _ hj => HK.out j hj)).symm, below_step HB.out HR.out⟩
  ·
   have ik : ∀ w, (Instr.index 70 (.agg R) (.int .i64 2)).run Tryz.prog w = .ok (.agg #[.int .i64 3, .func (.func 45) #[] #[]]) w := fun _ => by kernel_rfl
   have hcast : ((2 : Nat) : Int) = 2 := rfl
   go_upto_region 4 with fail
   have HA := am (blk_new wr (.cells #[.int .i64 3, .func (.func 45) #[] #[]] 69))
   have HQ := am (blk_alloc (blk_below HX.out HR.out) (.cells #[.int .i64 3, .func (.func 45) #[] #[]] 69))
   replace HR := am (below_alloc HR.out (.cells #[.int .i64 3, .func (.func 45) #[] #[]] 69))
   generalize wr.alloc (.cells #[.int .i64 3, .func (.func 45) #[] #[]] 69) = wq at HA HQ HR ⊢
   generalize wr.heap.size = a at HA ⊢
   have y1 := bcv HA.out 1 (.func (.func 45) #[] #[]) rfl
   iterate 8 go_step
   refine wp_load_whole 28 (.tmp 1) rfl b 28 c.v (0, 0) rfl HQ.out _ Tryz.underlying28 rfl (by kernel_rfl) ?_
   clear y1
   go_wp2_with fail
   refine (show Calls Tryz.prog 45 #[.agg c.v] wq fun e w' => e = .returned (.bool (ruleB c 2)) ∧ Below wq.heap.size wq w' from rule45 wq c).mono ?_
   rintro e w3 ⟨rfl, hb⟩
   replace HR := am (below_step HR.out hb)
   replace HA := am (blk_below HA.out hb)
   clear hb HQ
   obtain ⟨q, HV⟩ : ∃ q, Aside0 (ruleB c 2 = q) := ⟨_, ⟨rfl⟩⟩
   rw [HV.out]
   cases q with
   | true =>
    go_wp2_with fail
    go_roundw
    case rel => exact ⟨3, by decide, rfl, HR, ⟨upto_next HK.out HV.out⟩⟩
    case measure => decide
   | false =>
    have y0 := bcv HA.out 0 (.int .i64 3) rfl
    go_wp2_with fail
    go_ret
    exact ⟨congrArg (fun z => Ending.returned (.int .i64 z)) (first_at c 2 HV.out 14 0 (by decide) (by decide) (fun j _ hj => HK.out j hj)).symm, below_step HB.out HR.out⟩
  ·
   have ik : ∀ w, (Instr.index 70 (.agg R) (.int .i64 3)).run Tryz.prog w = .ok (.agg #[.int .i64 4, .func (.func 46) #[] #[]]) w := fun _ => by kernel_rfl
   have hcast : ((3 : Nat) : Int) = 3 := rfl
   go_upto_region 4 with fail
   have HA := am (blk_new wr (.cells #[.int .i64 4, .func (.func 46) #[] #[]] 69))
   have HQ := am (blk_alloc (blk_below HX.out HR.out) (.cells #[.int .i64 4, .func (.func 46) #[] #[]] 69))
   replace HR := am (below_alloc HR.out (.cells #[.int .i64 4, .func (.func 46) #[] #[]] 69))
   generalize wr.alloc (.cells #[.int .i64 4, .func (.func 46) #[] #[]] 69) = wq at HA HQ HR ⊢
   generalize wr.heap.size = a at HA ⊢
   have y1 := bcv HA.out 1 (.func (.func 46) #[] #[]) rfl
   iterate 8 go_step
   refine wp_load_whole 28 (.tmp 1) rfl b 28 c.v (0, 0) rfl HQ.out _ Tryz.underlying28 rfl (by kernel_rfl) ?_
   clear y1
   go_wp2_with fail
   refine (show Calls Tryz.prog 46 #[.agg c.v] wq fun e w' => e = .returned (.bool (ruleB c 3)) ∧ Below wq.heap.size wq w' from rule46 wq c).mono ?_
   rintro e w3 ⟨rfl, hb⟩
   replace HR := am (below_step HR.out hb)
   replace HA := am (blk_below HA.out hb)
   clear hb HQ
   obtain ⟨q, HV⟩ : ∃ q, Aside0 (ruleB c 3 = q) := ⟨_, ⟨rfl⟩⟩
   rw [HV.out]
   cases q with
   | true =>
    go_wp2_with fail
    go_roundw
    case rel => exact ⟨4, by decide, rfl, HR, ⟨upto_next HK.out HV.out⟩⟩
    case measure => decide
   | false =>
    have y0 := bcv HA.out 0 (.int .i64 4) rfl
    go_wp2_with fail
    go_ret
    exact ⟨congrArg (fun z => Ending.returned (.int .i64 z)) (first_at c 3 HV.out 14 0 (by decide) (by decide) (fun j _ hj => HK.out j hj)).symm, below_step HB.out HR.out⟩
  ·
   have ik : ∀ w, (Instr.index 70 (.agg R) (.int .i64 4)).run Tryz.prog w = .ok (.agg #[.int .i64 5, .func (.func 47) #[] #[]]) w := fun _ => by kernel_rfl
   have hcast : ((4 : Nat) : Int) = 4 := rfl
   go_upto_region 4 with fail
   have HA := am (blk_new wr (.cells #[.int .i64 5, .func (.func 47) #[] #[]] 69))
   have HQ := am (blk_alloc (blk_below HX.out HR.out) (.cells #[.int .i64 5, .func (.func 47) #[] #[]] 69))
   replace HR := am (below_alloc HR.out (.cells #[.int .i64 5, .func (.func 47) #[] #[]] 69))
   generalize wr.alloc (.cells #[.int .i64 5, .func (.func 47) #[] #[]] 69) = wq at HA HQ HR ⊢
   generalize wr.heap.size = a at HA ⊢
   have y1 := bcv HA.out 1 (.func (.func 47) #[] #[]) rfl
   iterate 8 go_step
   refine wp_load_whole 28 (.tmp 1) rfl b 28 c.v (0, 0) rfl HQ.out _ Tryz.underlying28 rfl (by kernel_rfl) ?_
   clear y1
   go_wp2_with fail
   refine (show Calls Tryz.prog 47 #[.agg c.v] wq fun e w' => e = .returned (.bool (ruleB c 4)) ∧ Below wq.heap.size wq w' from rule47 wq c).mono ?_
   rintro e w3 ⟨rfl, hb⟩
   replace HR := am (below_step HR.out hb)
   replace HA := am (blk_below HA.out hb)
   clear hb HQ
   obtain ⟨q, HV⟩ : ∃ q, Aside0 (ruleB c 4 = q) := ⟨_, ⟨rfl⟩⟩
   rw [HV.out]
   cases q with
   | true =>
    go_wp2_with fail
    go_roundw
    case rel => exact ⟨5, by decide, rfl, HR, ⟨upto_next HK.out HV.out⟩⟩
    case measure => decide
   | false =>
    have y0 := bcv HA.out 0 (.int .i64 5) rfl
    go_wp2_with fail
    go_ret
    exact ⟨congrArg (fun z => Ending.returned (.int .i64 z)) (first_at c 4 HV.out 14 0 (by decide) (by decide) (fun j _ hj => HK.out j hj)).symm, below_step HB.out HR.out⟩
  ·
   have ik : ∀ w, (Instr.index 70 (.agg R) (.int .i64 5)).run Tryz.prog w = .ok (.agg #[.int .i64 6, .func (.func 50) #[] #[]]) w := fun _ => by kernel_rfl
   have hcast : ((5 : Nat) : Int) = 5 := rfl
   go_upto_region 4 with fail
   have HA := am (blk_new wr (.cells #[.int .i64 6, .func (.func 50) #[] #[]] 69))
   have HQ := am (blk_alloc (blk_below HX.out HR.out) (.cells #[.int .i64 6, .func (.func 50) #[] #[]] 69))
   replace HR := am (below_alloc HR.out (.cells #[.int .i64 6, .func (.func 50) #[] #[]] 69))
   generalize wr.alloc (.cells #[.int .i64 6, .func (.func 50) #[] #[]] 69) = wq at HA HQ HR ⊢
   generalize wr.heap.size = a at HA ⊢
   have y1 := bcv HA.out 1 (.func (.func 50) #[] #[]) rfl
   iterate 8 go_step
   refine wp_load_whole 28 (.tmp 1) rfl b 28 c.v (0, 0) rfl HQ.out _ Tryz.underlying28 rfl (by kernel_rfl) ?_
   clear y1
   go_wp2_with fail
   refine (show Calls Tryz.prog 50 #[.agg c.v] wq fun e w' => e = .returned (.bool (ruleB c 5)) ∧ Below wq.heap.size wq w' from rule50 wq c).mono ?_
   rintro e w3 ⟨rfl, hb⟩
   replace HR := am (below_step HR.out hb)
   replace HA := am (blk_below HA.out hb)
   clear hb HQ
   obtain ⟨q, HV⟩ : ∃ q, Aside0 (ruleB c 5 = q) := ⟨_, ⟨rfl⟩⟩
   rw [HV.out]
   cases q with
   | true =>
    go_wp2_with fail
    go_roundw
    case rel => exact ⟨6, by decide, rfl, HR, ⟨upto_next HK.out HV.out⟩⟩
    case measure => decide
   | false =>
    have y0 := bcv HA.out 0 (.int .i64 6) rfl
    go_wp2_with fail
    go_ret
    exact ⟨congrArg (fun z => Ending.returned (.int .i64 z)) (first_at c 5 HV.out 14 0 (by decide) (by decide) (fun j _ hj => HK.out j hj)).symm, below_step HB.out HR.out⟩
  ·
   have ik : ∀ w, (Instr.index 70 (.agg R) (.int .i64 6)).run Tryz.prog w = .ok (.agg #[.int .i64 7, .func (.func 52) #[] #[]]) w := fun _ => by kernel_rfl
   have hcast : ((6 : Nat) : Int) = 6 := rfl
   go_upto_region 4 with fail
   have HA := am (blk_new wr (.cells #[.int .i64 7, .func (.func 52) #[] #[]] 69))
   have HQ := am (blk_alloc (blk_below HX.out HR.out) (.cells #[.int .i64 7, .func (.func 52) #[] #[]] 69))
   replace HR := am (below_alloc HR.out (.cells #[.int .i64 7, .func (.func 52) #[] #[]] 69))
   generalize wr.alloc (.cells #[.int .i64 7, .func (.func 52) #[] #[]] 69) = wq at HA HQ HR ⊢
   generalize wr.heap.size = a at HA ⊢
   have y1 := bcv HA.out 1 (.func (.func 52) #[] #[]) rfl
   iterate 8 go_step
   refine wp_load_whole 28 (.tmp 1) rfl b 28 c.v (0, 0) rfl HQ.out _ Tryz.underlying28 rfl (by kernel_rfl) ?_
   clear y1
   go_wp2_with fail
   refine (show Calls Tryz.prog 52 #[.agg c.v] wq fun e w' => e = .returned (.bool (ruleB c 6)) ∧ Below wq.heap.size wq w' from rule52 wq c).mono ?_
   rintro e w3 ⟨rfl, hb⟩
   replace HR := am (below_step HR.out hb)
   replace HA := am (blk_below HA.out hb)
   clear hb HQ
   obtain ⟨q, HV⟩ : ∃ q, Aside0 (ruleB c 6 = q) := ⟨_, ⟨rfl⟩⟩
   rw [HV.out]
   cases q with
   | true =>
    go_wp2_with fail
    go_roundw
    case rel => exact ⟨7, by decide, rfl, HR, ⟨upto_next HK.out HV.out⟩⟩
    case measure => decide
   | false =>
    have y0 := bcv HA.out 0 (.int .i64 7) rfl
    go_wp2_with fail
    go_ret
    exact ⟨congrArg (fun z => Ending.returned (.int .i64 z)) (first_at c 6 HV.out 14 0 (by decide) (by decide) (fun j _ hj => HK.out j hj)).symm, below_step HB.out HR.out⟩
  ·
   have ik : ∀ w, (Instr.index 70 (.agg R) (.int .i64 7)).run Tryz.prog w = .ok (.agg #[.int .i64 8, .func (.func 54) #[] #[]]) w := fun _ => by kernel_rfl
   have hcast : ((7 : Nat) : Int) = 7 := rfl
   go_upto_region 4 with fail
   have HA := am (blk_new wr (.cells #[.int .i64 8, .func (.func 54) #[] #[]] 69))
   have HQ := am (blk_alloc (blk_below HX.out HR.out) (.cells #[.int .i64 8, .func (.func 54) #[] #[]] 69))
   replace HR := am (below_alloc HR.out (.cells #[.int .i64 8, .func (.func 54) #[] #[]] 69))
   generalize wr.alloc (.cells #[.int .i64 8, .func (.func 54) #[] #[]] 69) = wq at HA HQ HR ⊢
   generalize wr.heap.size = a at HA ⊢
   have y1 := bcv HA.out 1 (.func (.func 54) #[] #[]) rfl
   iterate 8 go_step
   refine wp_load_whole 28 (.tmp 1) rfl b 28 c.v (0, 0) rfl HQ.out _ Tryz.underlying28 rfl (by kernel_rfl) ?_
   clear y1
   go_wp2_with fail
   refine (show Calls Tryz.prog 54 #[.agg c.v] wq fun e w' => e = .returned (.bool (ruleB c 7)) ∧ Below wq.heap.size wq w' from rule54 wq c).mono ?_
   rintro e w3 ⟨rfl, hb⟩
   replace HR := am (below_step HR.out hb)
   replace HA := am (blk_below HA.out hb)
   clear hb HQ
   obtain ⟨q, HV⟩ : ∃ q, Aside0 (ruleB c 7 = q) := ⟨_, ⟨rfl⟩⟩
   rw [HV.out]
   cases q with
   | true =>
    go_wp2_with fail
    go_roundw
    case rel => exact ⟨8, by decide, rfl, HR, ⟨upto_next HK.out HV.out⟩⟩
    case measure => decide
   | false =>
    have y0 := bcv HA.out 0 (.int .i64 8) rfl
    go_wp2_with fail
    go_ret
    exact ⟨congrArg (fun z => Ending.returned (.int .i64 z)) (first_at c 7 HV.out 14 0 (by decide) (by decide) (fun j _ hj => HK.out j hj)).symm, below_step HB.out HR.out⟩
  ·
   have ik : ∀ w, (Instr.index 70 (.agg R) (.int .i64 8)).run Tryz.prog w = .ok (.agg #[.int .i64 9, .func (.func 55) #[] #[]]) w := fun _ => by kernel_rfl
   have hcast : ((8 : Nat) : Int) = 8 := rfl
   go_upto_region 4 with fail
   have HA := am (blk_new wr (.cells #[.int .i64 9, .func (.func 55) #[] #[]] 69))
   have HQ := am (blk_alloc (blk_below HX.out HR.out) (.cells #[.int .i64 9, .func (.func 55) #[] #[]] 69))
   replace HR := am (below_alloc HR.out (.cells #[.int .i64 9, .func (.func 55) #[] #[]] 69))
   generalize wr.alloc (.cells #[.int .i64 9, .func (.func 55) #[] #[]] 69) = wq at HA HQ HR ⊢
   generalize wr.heap.size = a at HA ⊢
   have y1 := bcv HA.out 1 (.func (.func 55) #[] #[]) rfl
   iterate 8 go_step
   refine wp_load_whole 28 (.tmp 1) rfl b 28 c.v (0, 0) rfl HQ.out _ Tryz.underlying28 rfl (by kernel_rfl) ?_
   clear y1
   go_wp2_with fail
   refine (show Calls Tryz.prog 55 #[.agg c.v] wq fun e w' => e = .returned (.bool (ruleB c 8)) ∧ Below wq.heap.size wq w' from rule55 wq c).mono ?_
   rintro e w3 ⟨rfl, hb⟩
   replace HR := am (below_step HR.out hb)
   replace HA := am (blk_below HA.out hb)
   clear hb HQ
   obtain ⟨q, HV⟩ : ∃ q, Aside0 (ruleB c 8 = q) := ⟨_, ⟨rfl⟩⟩
   rw [HV.out]
   cases q with
   | true =>
    go_wp2_with fail
    go_roundw
    case rel => exact ⟨9, by decide, rfl, HR, ⟨upto_next HK.out HV.out⟩⟩
    case measure => decide
   | false =>
    have y0 := bcv HA.out 0 (.int .i64 9) rfl
    go_wp2_with fail
    go_ret
    exact ⟨congrArg (fun z => Ending.returned (.int .i64 z)) (first_at c 8 HV.out 14 0 (by decide) (by decide) (fun j _ hj => HK.out j hj)).symm, below_step HB.out HR.out⟩
  ·
   have ik : ∀ w, (Instr.index 70 (.agg R) (.int .i64 9)).run Tryz.prog w = .ok (.agg #[.int .i64 10, .func (.func 57) #[] #[]]) w := fun _ => by kernel_rfl
   have hcast : ((9 : Nat) : Int) = 9 := rfl
   go_upto_region 4 with fail
   have HA := am (blk_new wr (.cells #[.int .i64 10, .func (.func 57) #[] #[]] 69))
   have HQ := am (blk_alloc (blk_below HX.out HR.out) (.cells #[.int .i64 10, .func (.func 57) #[] #[]] 69))
   replace HR := am (below_alloc HR.out (.cells #[.int .i64 10, .func (.func 57) #[] #[]] 69))
   generalize wr.alloc (.cells #[.int .i64 10, .func (.func 57) #[] #[]] 69) = wq at HA HQ HR ⊢
   generalize wr.heap.size = a at HA ⊢
   have y1 := bcv HA.out 1 (.func (.func 57) #[] #[]) rfl
   iterate 8 go_step
   refine wp_load_whole 28 (.tmp 1) rfl b 28 c.v (0, 0) rfl HQ.out _ Tryz.underlying28 rfl (by kernel_rfl) ?_
   clear y1
   go_wp2_with fail
   refine (show Calls Tryz.prog 57 #[.agg c.v] wq fun e w' => e = .returned (.bool (ruleB c 9)) ∧ Below wq.heap.size wq w' from rule57 wq c).mono ?_
   rintro e w3 ⟨rfl, hb⟩
   replace HR := am (below_step HR.out hb)
   replace HA := am (blk_below HA.out hb)
   clear hb HQ
   obtain ⟨q, HV⟩ : ∃ q, Aside0 (ruleB c 9 = q) := ⟨_, ⟨rfl⟩⟩
   rw [HV.out]
   cases q with
   | true =>
    go_wp2_with fail
    go_roundw
    case rel => exact ⟨10, by decide, rfl, HR, ⟨upto_next HK.out HV.out⟩⟩
    case measure => decide
   | false =>
    have y0 := bcv HA.out 0 (.int .i64 10) rfl
    go_wp2_with fail
    go_ret
    exact ⟨congrArg (fun z => Ending.returned (.int .i64 z)) (first_at c 9 HV.out 14 0 (by decide) (by decide) (fun j _ hj => HK.out j hj)).symm, below_step HB.out HR.out⟩
  ·
   have ik : ∀ w, (Instr.index 70 (.agg R) (.int .i64 10)).run Tryz.prog w = .ok (.agg #[.int .i64 11, .func (.func 58) #[] #[]]) w := fun _ => by kernel_rfl
   have hcast : ((10 : Nat) : Int) = 10 := rfl
   go_upto_region 4 with fail
   have HA := am (blk_new wr (.cells #[.int .i64 11, .func (.func 58) #[] #[]] 69))
   have HQ := am (blk_alloc (blk_below HX.out HR.out) (.cells #[.int .i64 11, .func (.func 58) #[] #[]] 69))
   replace HR := am (below_alloc HR.out (.cells #[.int .i64 11, .func (.func 58) #[] #[]] 69))
   generalize wr.alloc (.cells #[.int .i64 11, .func (.func 58) #[] #[]] 69) = wq at HA HQ HR ⊢
   generalize wr.heap.size = a at HA ⊢
   have y1 := bcv HA.out 1 (.func (.func 58) #[] #[]) rfl
   iterate 8 go_step
   refine wp_load_whole 28 (.tmp 1) rfl b 28 c.v (0, 0) rfl HQ.out _ Tryz.underlying28 rfl (by kernel_rfl) ?_
   clear y1
   go_wp2_with fail
   refine (show Calls Tryz.prog 58 #[.agg c.v] wq fun e w' => e = .returned (.bool (ruleB c 10)) ∧ Below wq.heap.size wq w' from rule58 wq c).mono ?_
   rintro e w3 ⟨rfl, hb⟩
   replace HR := am (below_step HR.out hb)
   replace HA := am (blk_below HA.out hb)
   clear hb HQ
   obtain ⟨q, HV⟩ : ∃ q, Aside0 (ruleB c 10 = q) := ⟨_, ⟨rfl⟩⟩
   rw [HV.out]
   cases q with
   | true =>
    go_wp2_with fail
    go_roundw
    case rel => exact ⟨11, by decide, rfl, HR, ⟨upto_next HK.out HV.out⟩⟩
    case measure => decide
   | false =>
    have y0 := bcv HA.out 0 (.int .i64 11) rfl
    go_wp2_with fail
    go_ret
    exact ⟨congrArg (fun z => Ending.returned (.int .i64 z)) (first_at c 10 HV.out 14 0 (by decide) (by decide) (fun j _ hj => HK.out j hj)).symm, below_step HB.out HR.out⟩
  ·
   have ik : ∀ w, (Instr.index 70 (.agg R) (.int .i64 11)).run Tryz.prog w = .ok (.agg #[.int .i64 12, .func (.func 59) #[] #[]]) w := fun _ => by kernel_rfl
   have hcast : ((11 : Nat) : Int) = 11 := rfl
   go_upto_region 4 with fail
   have HA := am (blk_new wr (.cells #[.int .i64 12, .func (.func 59) #[] #[]] 69))
   have HQ := am (blk_alloc (blk_below HX.out HR.out) (.cells #[.int .i64 12, .func (.func 59) #[] #[]] 69))
   replace HR := am (below_alloc HR.out (.cells #[.int .i64 12, .func (.func 59) #[] #[]] 69))
   generalize wr.alloc (.cells #[.int .i64 12, .func (.func 59) #[] #[]] 69) = wq at HA HQ HR ⊢
   generalize wr.heap.size = a at HA ⊢
   have y1 := bcv HA.out 1 (.func (.func 59) #[] #[]) rfl
   iterate 8 go_step
   refine wp_load_whole 28 (.tmp 1) rfl b 28 c.v (0, 0) rfl HQ.out _ Tryz.underlying28 rfl (by kernel_rfl) ?_
   clear y1
   go_wp2_with fail
   refine (show Calls Tryz.prog 59 #[.agg c.v] wq fun e w' => e = .returned (.bool (ruleB c 11)) ∧ Below wq.heap.size wq w' from rule59 wq c).mono ?_
   rintro e w3 ⟨rfl, hb⟩
   replace HR := am (below_step HR.out hb)
   replace HA := am (blk_below HA.out hb)
   clear hb HQ
   obtain ⟨q, HV⟩ : ∃ q, Aside0 (ruleB c 11 = q) := ⟨_, ⟨rfl⟩⟩
   rw [HV.out]
   cases q with
   | true =>
    go_wp2_with fail
    go_roundw
    case rel => exact ⟨12, by decide, rfl, HR, ⟨upto_next HK.out HV.out⟩⟩
    case measure => decide
   | false =>
    have y0 := bcv HA.out 0 (.int .i64 12) rfl
    go_wp2_with fail
    go_ret
    exact ⟨congrArg (fun z => Ending.returned (.int .i64 z)) (first_at c 11 HV.out 14 0 (by decide) (by decide) (fun j _ hj => HK.out j hj)).symm, below_step HB.out HR.out⟩
  ·
   have ik : ∀ w, (Instr.index 70 (.agg R) (.int .i64 12)).run Tryz.prog w = .ok (.agg #[.int .i64 13, .func (.func 60) #[] #[]]) w := fun _ => by kernel_rfl
   have hcast : ((12 : Nat) : Int) = 12 := rfl
   go_upto_region 4 with fail
   have HA := am (blk_new wr (.cells #[.int .i64 13, .func (.func 60) #[] #[]] 69))
   have HQ := am (blk_alloc (blk_below HX.out HR.out) (.cells #[.int .i64 13, .func (.func 60) #[] #[]] 69))
   replace HR := am (below_alloc HR.out (.cells #[.int .i64 13, .func (.func 60) #[] #[]] 69))
   generalize wr.alloc (.cells #[.int .i64 13, .func (.func 60) #[] #[]] 69) = wq at HA HQ HR ⊢
   generalize wr.heap.size = a at HA ⊢
   have y1 := bcv HA.out 1 (.func (.func 60) #[] #[]) rfl
   iterate 8 go_step
   refine wp_load_whole 28 (.tmp 1) rfl b 28 c.v (0, 0) rfl HQ.out _ Tryz.underlying28 rfl (by kernel_rfl) ?_
   clear y1
   go_wp2_with fail
   refine (show Calls Tryz.prog 60 #[.agg c.v] wq fun e w' => e = .returned (.bool (ruleB c 12)) ∧ Below wq.heap.size wq w' from rule60 wq c).mono ?_
   rintro e w3 ⟨rfl, hb⟩
   replace HR := am (below_step HR.out hb)
   replace HA := am (blk_below HA.out hb)
   clear hb HQ
   obtain ⟨q, HV⟩ : ∃ q, Aside0 (ruleB c 12 = q) := ⟨_, ⟨rfl⟩⟩
   rw [HV.out]
   cases q with
   | true =>
    go_wp2_with fail
    go_roundw
    case rel => exact ⟨13, by decide, rfl, HR, ⟨upto_next HK.out HV.out⟩⟩
    case measure => decide
   | false =>
    have y0 := bcv HA.out 0 (.int .i64 13) rfl
    go_wp2_with fail
    go_ret
    exact ⟨congrArg (fun z => Ending.returned (.int .i64 z)) (first_at c 12 HV.out 14 0 (by decide) (by decide) (fun j _ hj => HK.out j hj)).symm, below_step HB.out HR.out⟩
  ·
   have ik : ∀ w, (Instr.index 70 (.agg R) (.int .i64 13)).run Tryz.prog w = .ok (.agg #[.int .i64 14, .func (.func 61) #[] #[]]) w := fun _ => by kernel_rfl
   have hcast : ((13 : Nat) : Int) = 13 := rfl
   go_upto_region 4 with fail
   have HA := am (blk_new wr (.cells #[.int .i64 14, .func (.func 61) #[] #[]] 69))
   have HQ := am (blk_alloc (blk_below HX.out HR.out) (.cells #[.int .i64 14, .func (.func 61) #[] #[]] 69))
   replace HR := am (below_alloc HR.out (.cells #[.int .i64 14, .func (.func 61) #[] #[]] 69))
   generalize wr.alloc (.cells #[.int .i64 14, .func (.func 61) #[] #[]] 69) = wq at HA HQ HR ⊢
   generalize wr.heap.size = a at HA ⊢
   have y1 := bcv HA.out 1 (.func (.func 61) #[] #[]) rfl
   iterate 8 go_step
   refine wp_load_whole 28 (.tmp 1) rfl b 28 c.v (0, 0) rfl HQ.out _ Tryz.underlying28 rfl (by kernel_rfl) ?_
   clear y1
   go_wp2_with fail
   refine (show Calls Tryz.prog 61 #[.agg c.v] wq fun e w' => e = .returned (.bool (ruleB c 13)) ∧ Below wq.heap.size wq w' from rule61 wq c).mono ?_
   rintro e w3 ⟨rfl, hb⟩
   replace HR := am (below_step HR.out hb)
   replace HA := am (blk_below HA.out hb)
   clear hb HQ
   obtain ⟨q, HV⟩ : ∃ q, Aside0 (ruleB c 13 = q) := ⟨_, ⟨rfl⟩⟩
   rw [HV.out]
   cases q with
   | true =>
    go_wp2_with fail
    go_roundw
    case rel => exact ⟨14, by decide, rfl, HR, ⟨upto_next HK.out HV.out⟩⟩
    case measure => decide
   | false =>
    have y0 := bcv HA.out 0 (.int .i64 14) rfl
    go_wp2_with fail
    go_ret
    exact ⟨congrArg (fun z => Ending.returned (.int .i64 z)) (first_at c 13 HV.out 14 0 (by decide) (by decide) (fun j _ hj => HK.out j hj)).symm, below_step HB.out HR.out⟩
  ·
   have hcast : ((14 : Nat) : Int) = 14 := rfl
   go_wp2_with fail
   go_ret
   exact ⟨congrArg (fun z => Ending.returned (.int .i64 z)) (first_none c 14 0 (fun j _ hj => HK.out j hj)).symm, below_step HB.out HR.out⟩
end Go.Proofs.YtpdahkgandaabaaGreatDoor.Ch
namespace Go.Proofs.YtpdahkgandaabaaGreatDoor.Ch
open Go.RowKit Go.Proofs.YtpdahkgandaabaaGreatDoorW.PrintWords Go.Proofs.YtpdahkgandaabaaGreatDoorW.PrintLast Go.Proofs.YtpdahkgandaabaaGreatDoorW.PrintMore Go.Proofs.YtpdahkgandaabaaGreatDoor.PTopNames
set_option linter.unusedVariables false
set_option linter.unusedSimpArgs false
def clipped (c : Cf) (a : Int) : Bool := decide (a ≤ wrap64 (-c.clip)) || decide (c.clip ≤ a)
def thrustOf (c : Cf) (a : Int) : Int := wrap64 (wrap64 (a - c.rest) * c.sc)
def thV (c : Cf) (a : Int) : Int := if clipped c a then 0 else thrustOf c a
def thE (c : Cf) (a : Int) : Int := if clipped c a then 2 else 0
set_option maxRecDepth 100000 in
set_option maxHeartbeats 4000000 in
theorem thrust_any (w : World) (c : Cf) (a : Int) (hck : checkR c = 0) :
  Calls Tryz.prog 62 #[.agg c.v, .int .i64 a] w fun e w' => e = .returned (.tuple #[.int .i64 (thV c a), .int .i64 (thE c a)]) ∧ Below w.heap.size w w' := by
 have HC := am hck
 clear hck
 go_enter Tryz.func62, Tryz.ntmps62
 go_upto_region 1 with fail
 have HX := am (blk_new w (.cells c.v 28))
 have HB := am (below_alloc (Below.refl w.heap.size w) (.cells c.v 28))
 generalize w.alloc (.cells c.v 28) = w1 at HX HB ⊢
 obtain ⟨b, hb⟩ : ∃ b, b = w.heap.size := ⟨_, rfl⟩
 rw [← hb] at HX ⊢
 clear hb
 iterate 2 go_step
 refine wp_load_row 28 (.tmp 2) rfl b rfl 28 c.v (0, 0) _ HX.out Tryz.underlying28 rfl (by kernel_rfl) ?_
 go_wp2_with fail
 refine (check_any w1 c).mono ?_
 rintro e w2 ⟨rfl, hb⟩
 rw [HC.out]
 replace HX := am (blk_below HX.out hb)
 replace HB := am (below_step HB.out hb)
 clear hb
 have x26 := bcv HX.out 26 (.int .i64 c.clip) rfl
 have x25 := bcv HX.out 25 (.int .i64 c.rest) rfl
 have x24 := bcv HX.out 24 (.int .i64 c.sc) rfl
 by_cases h1 : a ≤ wrap64 (-c.clip)
 ·
  have d1 : decide (a ≤ wrap64 (-c.clip)) = true := decide_eq_true h1
  have HQ := am (show clipped c a = true by simp [clipped, h1])
  go_wp2_with fail
  go_ret2
  exact ⟨by simp [thV, thE, HQ.out], HB.out⟩
 ·
  have d1 : decide (a ≤ wrap64 (-c.clip)) = false := decide_eq_false h1
  by_cases h2 : c.clip ≤ a
  ·
   have d2 : decide (c.clip ≤ a) = true := decide_eq_true h2
   have HQ := am (show clipped c a = true by simp [clipped, h2])
   go_wp2_with fail
   go_ret2
   exact ⟨by simp [thV, thE, HQ.out], HB.out⟩
  ·
   have d2 : decide (c.clip ≤ a) = false := decide_eq_false h2
   have HQ := am (show clipped c a = false by simp only [clipped, d1, d2]; rfl)
   go_wp2_with fail
   go_ret2
   exact ⟨by simp [thV, thE, HQ.out, thrustOf], HB.out⟩
def feedV (last run : Int) (c : Cf) : Array Value := #[.int .i64 last, .int .i64 run, .int .i64 c.q0, .int .i64 c.q1, .int .i64 c.q2, .int .i64 c.l0, .int .i64 c.l1, .int .i64 c.l2, .int .i64 c.r, .int .i64 c.rg, .int .i64 c.s0, .int .i64 c.s1, .int .i64 c.s2, .int .i64 c.f0, .int .i64 c.f1, .int .i64 c.f2, .int .i64 c.c0, .int .i64 c.c1, .int .i64 c.c2, .int .i64 c.b0, .int .i64 c.b1, .int .i64 c.b2, .int .i64 c.g, .int .i64 c.t0, .int .i64 c.t1, .int .i64 c.t2, .int .i64 c.sc, .int .i64 c.rest, .int .i64 c.clip, .int .i64 c.hold, .int .i64 c.coast, .int .i64 c.out, .int .i64 c.band]
theorem feedV_conf (last run : Int) (c : Cf) : (feedV last run c).extract 2 33 = c.v := by kernel_rfl
set_option maxRecDepth 100000 in
set_option maxHeartbeats 4000000 in
theorem anew_any (w : World) (c : Cf) (hck : checkR c = 0) :
  Calls Tryz.prog 20 #[.agg c.v] w fun e w' => ∃ f : Nat, e = .returned (.tuple #[.pointer (some ⟨f, 0, none⟩), .int .i64 0]) ∧ w'.heap[f]? = some (.cells (feedV 0 0 c) 101 (0, 0)) ∧ w.heap.size ≤ f ∧ Below w.heap.size w w' := by
 have HC := am hck
 clear hck
 go_enter Tryz.func20, Tryz.ntmps20
 go_upto_region 1 with fail
 have HX := am (blk_new w (.cells c.v 28))
 have HB := am (below_alloc (Below.refl w.heap.size w) (.cells c.v 28))
 generalize w.alloc (.cells c.v 28) = w1 at HX HB ⊢
 obtain ⟨b, hb⟩ : ∃ b, b = w.heap.size := ⟨_, rfl⟩
 rw [← hb] at HX ⊢
 clear hb
 iterate 2 go_step
 refine wp_load_row 28 (.tmp 1) rfl b rfl 28 c.v (0, 0) _ HX.out Tryz.underlying28 rfl (by kernel_rfl) ?_
 go_wp2_with fail
 refine (check_any w1 c).mono ?_
 rintro e w2 ⟨rfl, hb⟩
 rw [HC.out]
 replace HX := am (blk_below HX.out hb)
 replace HB := am (below_step HB.out hb)
 clear hb
 go_upto_region 3 with fail
 iterate 2 go_step
 refine wp_load_row 28 (.tmp 1) rfl b rfl 28 c.v (0, 0) _ HX.out Tryz.underlying28 rfl (by kernel_rfl) ?_
 unfold Cf.v
 go_wp2_with fail
 go_ret2
 exact ⟨w2.heap.size, rfl, blk_new w2 (.cells (feedV 0 0 c) 101), HB.out.size, below_alloc HB.out _⟩
theorem wp_load_part {P : Program} {op : Oper} {a : Act} {w : World} {K : Act → World → Prop} {Q : Exit → Act → World → Prop} (ty : TypeId) (x : Operand) (ho : op.op = .load ty x)
  (b o n : Nat) (hx : a.eval x = .pointer (some ⟨b, o, none⟩)) (C cs : Array Value) (t : TypeId) (hg : w.heap[b]? = some (.cells C t (0, 0))) (hc : C.extract o (o + n) = cs) (d : TypeDesc)
  (hu : P.underlying ty = some d) (hd : d.isRow = true) (hi : (P.info? ty).map (·.size) = some cs.toList.length)
  (h : K (a.put op.dst (.agg cs)) w) : op.wp P a w K Q := by
 subst hc
 refine wp_load_mid ty x ho b o hx _ d (World.rangeAt_of_block hg o n) hu hd hi ?_
 rw [Array.toArray_toList]
 exact h
def inT (c : Cf) (last a : Int) : Int := if clipped c a then last else thrustOf c a
def inRun (c : Cf) (run a : Int) : Int := if clipped c a then wrap64 (run + 1) else 0
def inLost (c : Cf) (run a : Int) : Bool := clipped c a && decide (c.hold < wrap64 (run + 1))
set_option maxRecDepth 100000 in
set_option maxHeartbeats 4000000 in
theorem in_any (w0 w : World) (f : Nat) (c : Cf) (last run a : Int) (hF : w.heap[f]? = some (.cells (feedV last run c) 101 (0, 0))) (hf : w0.heap.size ≤ f) (hB : Below w0.heap.size w0 w) (hck : checkR c = 0) :
  Calls Tryz.prog 22 #[.pointer (some ⟨f, 0, none⟩), .int .i64 a] w fun e w' => e = .returned (.tuple #[.int .i64 (inT c last a), .bool (clipped c a), .bool (inLost c run a)]) ∧
   w'.heap[f]? = some (.cells (feedV (inT c last a) (inRun c run a) c) 101 (0, 0)) ∧ Below w0.heap.size w0 w' ∧ KeepBut w w' f none := by
 have HF := am hF
 have HB := am hB
 have HC := am hck
 clear hF hB hck
 go_enter Tryz.func22, Tryz.ntmps22
 go_upto_region 1 with fail
 iterate 11 go_step
 refine wp_load_part 28 (.tmp 12) rfl f 2 31 rfl (feedV last run c) c.v 101 HF.out (feedV_conf last run c) _ Tryz.underlying28 rfl (by kernel_rfl) ?_
 go_wp2_with fail
 refine (thrust_any w c a HC.out).mono ?_
 rintro e w1 ⟨rfl, hb⟩
 have HK := am (KeepBut.of_below hb f none)
 replace HF := am (blk_below HF.out hb)
 replace HB := am (below_step HB.out hb)
 clear hb
 have y0 := bcv HF.out 0 (.int .i64 last) rfl
 have y1 := bcv HF.out 1 (.int .i64 run) rfl
 have f0 := bfz HF.out 0
 have f1 := bfz HF.out 1
 cases hq : clipped c a with
 | false =>
  have HQ := am hq
  have HV := am (show thV c a = thrustOf c a by simp [thV, hq])
  have HE := am (show thE c a = 0 by simp [thE, hq])
  have HT := am (show inT c last a = thrustOf c a by simp [inT, hq])
  have HN := am (show inRun c run a = 0 by simp [inRun, hq])
  have HL := am (show inLost c run a = false by simp [inLost, hq])
  clear hq
  rw [HV.out, HE.out]
  go_wp2_with fail
  refine bodyPost_ret (results_tmp3 rfl _ _ _) rfl ?_
  refine ⟨by rw [HT.out, HL.out, HQ.out]; rfl, ?_, (HB.out.setCell (p := ⟨f, 0, none⟩) hf _).setCell (p := ⟨f, 1, none⟩) hf _, (HK.out.set_ 0 _).set_ 1 _⟩
  rw [HT.out, HN.out]
  exact (blk_set (blk_set HF.out 0 _) 1 _).trans (by kernel_rfl)
 | true =>
  have HQ := am hq
  have HV := am (show thV c a = 0 by simp [thV, hq])
  have HE := am (show thE c a = 2 by simp [thE, hq])
  have HT := am (show inT c last a = last by simp [inT, hq])
  have HN := am (show inRun c run a = wrap64 (run + 1) by simp [inRun, hq])
  have HL := am (show inLost c run a = decide (c.hold < wrap64 (run + 1)) by simp [inLost, hq])
  clear hq
  rw [HV.out, HE.out]
  go_upto_region 6 with fail
  have q := (blk_set HF.out 1 (.int .i64 (wrap64 (run + 1)))).trans (show _ = some (Obj.cells (feedV last (wrap64 (run + 1)) c) 101 (0, 0)) by kernel_rfl)
  replace HF := am q
  replace HB := am (HB.out.setCell (p := ⟨f, 1, none⟩) hf (.int .i64 (wrap64 (run + 1))))
  replace HK := am (HK.out.set_ 1 (.int .i64 (wrap64 (run + 1))))
  clear q y0 y1 f0 f1
  generalize w1.setCell ⟨f, 1, none⟩ (.int .i64 (wrap64 (run + 1))) = w2 at HF HB HK ⊢
  have y0 := bcv HF.out 0 (.int .i64 last) rfl
  have y1 := bcv HF.out 1 (.int .i64 (wrap64 (run + 1))) rfl
  have y29 := bcv HF.out 29 (.int .i64 c.hold) rfl
  go_quiet (fail)
  go_wp2_with fail
  refine bodyPost_ret (results_tmp3 rfl _ _ _) rfl ?_
  refine ⟨by rw [HT.out, HL.out, HQ.out]; rfl, ?_, pw_below_drewN HB.out _, HK.out⟩
  rw [HT.out, HN.out]
  exact HF.out
structure Gs where
 (x0 x1 x2 p0 p1 p2 p3 p4 p5 : Int)
def chanV (s : Gs) (c : Cf) (f gr : Nat) (v : Value) (mode since : Int) : Array Value := #[.int .i64 s.x0, .int .i64 s.x1, .int .i64 s.x2, .int .i64 s.p0, .int .i64 s.p1, .int .i64 s.p2, .int .i64 s.p3, .int .i64 s.p4, .int .i64 s.p5, .int .i64 c.q0, .int .i64 c.q1, .int .i64 c.q2, .int .i64 c.l0, .int .i64 c.l1, .int .i64 c.l2, .int .i64 c.r, .int .i64 c.rg, .int .i64 c.s0, .int .i64 c.s1, .int .i64 c.s2, .int .i64 c.f0, .int .i64 c.f1, .int .i64 c.f2, .int .i64 c.c0, .int .i64 c.c1, .int .i64 c.c2, .int .i64 c.b0, .int .i64 c.b1, .int .i64 c.b2, .int .i64 c.g, .int .i64 c.t0, .int .i64 c.t1, .int .i64 c.t2, .int .i64 c.sc, .int .i64 c.rest, .int .i64 c.clip, .int .i64 c.hold, .int .i64 c.coast, .int .i64 c.out, .int .i64 c.band, .pointer (some ⟨f, 0, none⟩), v, .pointer (some ⟨gr, 0, none⟩), .int .i64 mode, .int .i64 since]
theorem exec_load_part {P : Program} {op : Oper} {a : Act} {w : World} (ty : TypeId) (x : Operand) (ho : op.op = .load ty x)
  (b o n : Nat) (hx : a.eval x = .pointer (some ⟨b, o, none⟩)) (C cs : Array Value) (t : TypeId) (hg : w.heap[b]? = some (.cells C t (0, 0))) (hc : C.extract o (o + n) = cs) (d : TypeDesc)
  (hu : P.underlying ty = some d) (hd : d.isRow = true) (hi : (P.info? ty).map (·.size) = some cs.toList.length) :
  (execOp a.eval op).run P w = .ok (.value (.agg cs)) w := by
 subst hc
 have hl := run_loadVar_mid w b o ty _ d (World.rangeAt_of_block hg o n) hu hd hi
 rw [Array.toArray_toList] at hl
 unfold execOp
 simp only [ho, hx, Instr.loadAt, Instr.sureAddr, Sem.run_bind, Sem.run_pure, Result.andThen_ok, hl]
set_option maxRecDepth 100000 in
set_option maxHeartbeats 4000000 in
theorem new_any (w : World) (c : Cf) (hck : checkR c = 0) :
  Calls Tryz.prog 9 #[.agg c.v] w fun e w' => ∃ g f gr : Nat, e = .returned (.tuple #[.pointer (some ⟨g, 0, none⟩), .int .i64 0]) ∧ w'.heap[g]? = some (.cells (chanV ⟨0, 0, 0, 0, 0, 0, 0, 0, 0⟩ c f gr (.slice none 0 0) 0 0) 56 (0, 0)) ∧
   w'.heap[f]? = some (.cells (feedV 0 0 c) 101 (0, 0)) ∧ IsS93 w w' gr (mx c.band 0) c.r c.rg 0 false ∧ w.heap.size ≤ g ∧ w.heap.size ≤ f ∧ Below w.heap.size w w' := by
 have HC := am hck
 clear hck
 go_enter Tryz.func9, Tryz.ntmps9
 go_upto_region 1 with fail
 have HX := am (blk_new w (.cells c.v 28))
 have HB := am (below_alloc (Below.refl w.heap.size w) (.cells c.v 28))
 generalize w.alloc (.cells c.v 28) = w1 at HX HB ⊢
 obtain ⟨b, hb⟩ : ∃ b, b = w.heap.size := ⟨_, rfl⟩
 rw [← hb] at HX ⊢
 clear hb
 iterate 2 go_step
 refine wp_load_row 28 (.tmp 1) rfl b rfl 28 c.v (0, 0) _ HX.out Tryz.underlying28 rfl (by kernel_rfl) ?_
 go_wp2_with fail
 refine (anew_any w1 c HC.out).mono ?_
 rintro e w2 ⟨f, rfl, hF, hf, hb⟩
 replace HX := am (blk_below HX.out hb)
 have HF := am hF
 have HG := am (Nat.le_trans HB.out.size hf)
 replace HB := am (below_step HB.out hb)
 clear hF hf hb
 go_upto_region 4 with fail
 refine start_ (n := 13) (S := fun w' => w'.heap[b]? = some (.cells c.v 28 (0, 0))) (ds := []) (flg 13 0) (by kernel_rfl) rfl rfl HX.out (fun hHeld => ?_)
 replace HX := am (blk_drew HX.out)
 replace HF := am (blk_drew HF.out)
 replace HB := am (below_drew HB.out)
 generalize w2.drew = wd at HX HF HB hHeld ⊢
 refine take_ (i := 0) (N := (some 14)) (v := (.agg c.v)) (a' := ?_) (flg 13 1) rfl rfl (by kernel_rfl) (fun _ _ _ h => h) (Or.inl ⟨by rfl, ?_⟩) hHeld ?_ ?_
 ·
  rintro w' s0
  exact exec_load_part 28 (.tmp 1) rfl b 0 31 rfl c.v c.v 28 s0 (by kernel_rfl) _ Tryz.underlying28 rfl (by kernel_rfl)
 rotate_left
 ·
  simp only [pw]
  rfl
 refine pure_ (i := 1) (N := (some 15)) (v := ?_) (a' := ?_) (flg 13 3) rfl rfl (by kernel_rfl) (fun _ _ _ h => h) (Or.inl ⟨by rfl, ?_⟩) ?_ ?_
 rotate_left
 ·
  intro w'
  go_simp
  with_reducible rfl
 rotate_left
 ·
  simp only [pw]
  rfl
 refine pure_ (i := 2) (N := (some 16)) (v := ?_) (a' := ?_) (flg 13 7) rfl rfl (by kernel_rfl) (fun _ _ _ h => h) (Or.inl ⟨by rfl, ?_⟩) ?_ ?_
 rotate_left
 ·
  intro w'
  go_simp
  with_reducible rfl
 rotate_left
 ·
  simp only [pw]
  rfl
 refine take_ (i := 3) (N := (some 17)) (v := ?_) (a' := ?_) (flg 13 15) rfl rfl (by kernel_rfl) (fun _ _ _ h => h) (Or.inl ⟨by rfl, ?_⟩) hHeld ?_ ?_
 rotate_left
 ·
  rintro w' s0
  have x := bcv s0 30 (.int .i64 c.band) rfl
  go_simp
  with_reducible rfl
 rotate_left
 ·
  simp only [pw]
  rfl
 refine pure_ (i := 4) (N := (some 18)) (v := ?_) (a' := ?_) (flg 13 31) rfl rfl (by kernel_rfl) (fun _ _ _ h => h) (Or.inl ⟨by rfl, ?_⟩) ?_ ?_
 rotate_left
 ·
  intro w'
  go_simp
  with_reducible rfl
 rotate_left
 ·
  simp only [pw]
  rfl
 refine take_ (i := 5) (N := (some 19)) (v := ?_) (a' := ?_) (flg 13 63) rfl rfl (by kernel_rfl) (fun _ _ _ h => h) (Or.inl ⟨by rfl, ?_⟩) hHeld ?_ ?_
 rotate_left
 ·
  rintro w' s0
  have x := bcv s0 6 (.int .i64 c.r) rfl
  go_simp
  with_reducible rfl
 rotate_left
 ·
  simp only [pw]
  rfl
 refine pure_ (i := 6) (N := (some 20)) (v := ?_) (a' := ?_) (flg 13 127) rfl rfl (by kernel_rfl) (fun _ _ _ h => h) (Or.inl ⟨by rfl, ?_⟩) ?_ ?_
 rotate_left
 ·
  intro w'
  go_simp
  with_reducible rfl
 rotate_left
 ·
  simp only [pw]
  rfl
 refine take_ (i := 7) (N := (some 21)) (v := ?_) (a' := ?_) (flg 13 255) rfl rfl (by kernel_rfl) (fun _ _ _ h => h) (Or.inl ⟨by rfl, ?_⟩) hHeld ?_ ?_
 rotate_left
 ·
  rintro w' s0
  have x := bcv s0 7 (.int .i64 c.rg) rfl
  go_simp
  with_reducible rfl
 rotate_left
 ·
  simp only [pw]
  rfl
 refine one_ (i := 8) (N := (some 22)) (flg 13 511) rfl rfl (by kernel_rfl) (by decide) (fun K hK => ?_)
 refine goes_ Tryz.func21 (by kernel_rfl) rfl #[.int .i64 c.band, .int .i64 c.r, .int .i64 c.rg] (by rfl) rfl rfl (by (try simp only [List.map_toArray, List.map_cons, List.map_nil]); first | done | rfl) ?_
 refine (ground_New.calls c.band c.r c.rg (mx c.band 0) c.r c.rg 0 false w wd HB.out rfl).mono ?_
 rintro e we ⟨gr, rfl, hI, hB, hb⟩
 have HI := am hI
 replace HX := am (blk_below HX.out hb)
 replace HF := am (blk_below HF.out hb)
 replace HB := am hB
 clear hI hB hb hHeld
 refine ⟨_, rfl, ?_⟩
 refine hK.out _ _ HX.out (fun hHeld => ?_)
 clear hK K
 refine norm_ (a' := ?_) ?_ ?_
 rotate_left
 ·
  show Act.put _ (some 22) _ = _
  simp only [pw]
  rfl
 refine pure_ (i := 9) (N := (some 23)) (v := (.agg (chanV ⟨0, 0, 0, 0, 0, 0, 0, 0, 0⟩ c f gr (.slice none 0 0) 0 0))) (a' := ?_) (flg 13 1023) rfl rfl (by kernel_rfl) (fun _ _ _ h => h) (Or.inl ⟨by rfl, ?_⟩) ?_ ?_
 ·
  intro w'
  kernel_rfl
 rotate_left
 ·
  simp only [pw]
  rfl
 refine one_ (i := 10) (N := (some 24)) (flg 13 2047) rfl rfl (by kernel_rfl) (by decide) (fun K hK => ?_)
 refine event_step (v := .pointer (some ⟨we.heap.size, 0, none⟩)) (w1 := we.alloc (.cells (chanV ⟨0, 0, 0, 0, 0, 0, 0, 0, 0⟩ c f gr (.slice none 0 0) 0 0) 56)) (by rfl) (by first | kernel_rfl | (go_simp; done) | (go_simp; rfl)) ?_
 have HGX := am (blk_new we (.cells (chanV ⟨0, 0, 0, 0, 0, 0, 0, 0, 0⟩ c f gr (.slice none 0 0) 0 0) 56))
 have HGG := am HB.out.size
 replace HX := am (blk_alloc HX.out (.cells (chanV ⟨0, 0, 0, 0, 0, 0, 0, 0, 0⟩ c f gr (.slice none 0 0) 0 0) 56))
 replace HF := am (blk_alloc HF.out (.cells (chanV ⟨0, 0, 0, 0, 0, 0, 0, 0, 0⟩ c f gr (.slice none 0 0) 0 0) 56))
 replace HI := am (HI.out.alloc (.cells (chanV ⟨0, 0, 0, 0, 0, 0, 0, 0, 0⟩ c f gr (.slice none 0 0) 0 0) 56))
 replace HB := am (below_alloc HB.out (.cells (chanV ⟨0, 0, 0, 0, 0, 0, 0, 0, 0⟩ c f gr (.slice none 0 0) 0 0) 56))
 clear hHeld
 generalize we.alloc (.cells (chanV ⟨0, 0, 0, 0, 0, 0, 0, 0, 0⟩ c f gr (.slice none 0 0) 0 0) 56) = wf at HX HF HI HB HGX ⊢
 generalize we.heap.size = g at HGX HGG ⊢
 refine hK.out _ _ HX.out (fun hHeld => ?_)
 clear hK K
 refine norm_ (a' := ?_) ?_ ?_
 rotate_left
 ·
  show Act.put _ (some 24) _ = _
  simp only [pw]
  rfl
 refine pure_ (i := 11) (N := (some 2)) (v := ?_) (a' := ?_) (flg 13 4095) rfl rfl (by kernel_rfl) (fun _ _ _ h => h) (Or.inl ⟨by rfl, ?_⟩) ?_ ?_
 rotate_left
 ·
  intro w'
  go_simp
  with_reducible rfl
 rotate_left
 ·
  simp only [pw]
  rfl
 refine pure_ (i := 12) (N := (some 3)) (v := ?_) (a' := ?_) (flg 13 8191) rfl rfl (by kernel_rfl) (fun _ _ _ h => h) (Or.inl ⟨by rfl, ?_⟩) ?_ ?_
 rotate_left
 ·
  intro w'
  go_simp
  with_reducible rfl
 rotate_left
 ·
  simp only [pw]
  rfl
 refine done_ (by kernel_rfl) ?_
 go_wp2_with fail
 go_ret2
 exact ⟨g, f, gr, rfl, HGX.out, HF.out, HI.out, HGG.out, HG.out, HB.out⟩
end Go.Proofs.YtpdahkgandaabaaGreatDoor.Ch
