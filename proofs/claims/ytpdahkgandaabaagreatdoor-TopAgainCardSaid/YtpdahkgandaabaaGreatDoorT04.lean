/- A part of the proof of TopAgain, where the package's tables hold what their initialisers lay. -/
import Derived.Laws.Externs
import Derived.Test.YtpdahkgandaabaaGreatDoorT01
import Derived.Test.YtpdahkgandaabaaGreatDoorT02
import Derived.Test.YtpdahkgandaabaaGreatDoorT03
namespace Go.Proofs.YtpdahkgandaabaaGreatDoor.PTopNames
open Go.RowKit Go.Proofs.YtpdahkgandaabaaGreatDoorW.PrintWords Go.Proofs.YtpdahkgandaabaaGreatDoorW.PrintLast Go.Proofs.YtpdahkgandaabaaGreatDoorW.PrintMore
attribute [local go_sem] max2_int min2_int max_two min_two max_three min_three max_four min_four
set_option linter.unusedVariables false
set_option linter.unusedSimpArgs false
def bits_Mul64.f (a0 : Int) (a1 : Int) : Option (Int × Int) := some (IntKind.u64.wrap ((IntKind.u64.wrap ((IntKind.u64.wrap ((a0 / 4294967296) * (a1 / 4294967296))) + ((IntKind.u64.wrap ((IntKind.u64.wrap ((a0 / 4294967296) * (Go.bits .and .u64 a1 4294967295))) + ((IntKind.u64.wrap ((Go.bits .and .u64 a0 4294967295) * (Go.bits .and .u64 a1 4294967295))) / 4294967296))) / 4294967296))) + ((IntKind.u64.wrap ((Go.bits .and .u64 (IntKind.u64.wrap ((IntKind.u64.wrap ((a0 / 4294967296) * (Go.bits .and .u64 a1 4294967295))) + ((IntKind.u64.wrap ((Go.bits .and .u64 a0 4294967295) * (Go.bits .and .u64 a1 4294967295))) / 4294967296))) 4294967295) + (IntKind.u64.wrap ((Go.bits .and .u64 a0 4294967295) * (a1 / 4294967296))))) / 4294967296)), IntKind.u64.wrap (a0 * a1))
set_option maxHeartbeats 8000000 in
set_option maxRecDepth 100000 in
theorem bits_Mul64.calls (a0 : Int) (a1 : Int) (r1 : Int) (r2 : Int) (w : World) (h : bits_Mul64.f a0 a1 = some (r1, r2)) :
  Calls Tryz.prog 131 #[.int .u64 a0, .int .u64 a1] w fun e w' => e = .returned (.tuple #[.int .u64 r1, .int .u64 r2]) ∧ Drawn0 w w' := by
 have H : (some (IntKind.u64.wrap ((IntKind.u64.wrap ((IntKind.u64.wrap ((a0 / 4294967296) * (a1 / 4294967296))) + ((IntKind.u64.wrap ((IntKind.u64.wrap ((a0 / 4294967296) * (Go.bits .and .u64 a1 4294967295))) + ((IntKind.u64.wrap ((Go.bits .and .u64 a0 4294967295) * (Go.bits .and .u64 a1 4294967295))) / 4294967296))) / 4294967296))) + ((IntKind.u64.wrap ((Go.bits .and .u64 (IntKind.u64.wrap ((IntKind.u64.wrap ((a0 / 4294967296) * (Go.bits .and .u64 a1 4294967295))) + ((IntKind.u64.wrap ((Go.bits .and .u64 a0 4294967295) * (Go.bits .and .u64 a1 4294967295))) / 4294967296))) 4294967295) + (IntKind.u64.wrap ((Go.bits .and .u64 a0 4294967295) * (a1 / 4294967296))))) / 4294967296)), IntKind.u64.wrap (a0 * a1))) = some (r1, r2) := h
 clear h
 simp only [Option.some.injEq, Prod.mk.injEq] at H
 obtain ⟨rfl, rfl⟩ := H
 go_enter Tryz.func131, Tryz.ntmps131
 go_wp2
 go_ret2
 exact f_0
def wide_size.f (a0 : Int) : Option (Int) := if a0 < 0 then (some (IntKind.u64.wrap (-(IntKind.u64.wrap (a0))))) else (some (IntKind.u64.wrap (a0)))
set_option maxHeartbeats 8000000 in
set_option maxRecDepth 100000 in
theorem wide_size.calls (a0 : Int) (r : Int) (w : World) (h : wide_size.f a0 = some r) :
  Calls Tryz.prog 132 #[a0] w fun e w' => e = .returned (.int .u64 r) ∧ Drawn0 w w' := by
 have H : (if a0 < 0 then (some (IntKind.u64.wrap (-(IntKind.u64.wrap (a0))))) else (some (IntKind.u64.wrap (a0)))) = some r := h
 clear h
 by_cases c2 : a0 < 0
 ·
  rw [if_pos c2] at H
  have c2b0 : decide (a0 < 0) = true := decide_eq_true c2
  clear c2
  obtain rfl := Option.some.inj H
  go_enter Tryz.func132, Tryz.ntmps132
  go_wp2
  go_ret
  exact f_0
 rw [if_neg c2] at H
 have c2b0 : decide (a0 < 0) = false := decide_eq_false c2
 clear c2
 obtain rfl := Option.some.inj H
 go_enter Tryz.func132, Tryz.ntmps132
 go_wp2
 go_ret
 exact f_0
def fix_Clamp.f (a0 : Int) (a1 : Int) : Option (Int) := some (mx (wrap64 (-(mx a1 0))) (mn a0 (mx a1 0)))
set_option maxHeartbeats 8000000 in
set_option maxRecDepth 100000 in
theorem fix_Clamp.calls (a0 : Int) (a1 : Int) (r : Int) (w : World) (h : fix_Clamp.f a0 a1 = some r) :
  Calls Tryz.prog 138 #[a0, a1] w fun e w' => e = .returned (.int .i64 r) ∧ Below w.heap.size w w' := by
 have HB := am (Below.refl w.heap.size w)
 have H : (some (mx (wrap64 (-(mx a1 0))) (mn a0 (mx a1 0)))) = some r := h
 clear h
 obtain ⟨ji3, hji3⟩ : ∃ j_ : Int, (mx a1 0) = j_ := ⟨_, rfl⟩
 replace H : (some (mx (wrap64 (-(ji3))) (mn a0 (ji3)))) = some r := by first | (rw [hji3] at H; exact H) | (simp only [hji3] at H ⊢; exact H)
 (try (have hji3l : 0 ≤ ji3 := by (rw [← hji3]; unfold mx; (repeat' split) <;> omega)))
 (try (have hji3m : 0 ≤ ji3 := by omega))
 have hji3_ : (if a1 < 0 then 0 else a1) = ji3 := hji3
 obtain ⟨ji4, hji4⟩ : ∃ j_ : Int, (mn a0 (ji3)) = j_ := ⟨_, rfl⟩
 replace H : (some (mx (wrap64 (-(ji3))) (ji4))) = some r := by first | (rw [hji4] at H; exact H) | (simp only [hji4] at H ⊢; exact H)
 have hji4_ : (if (ji3) < a0 then (ji3) else a0) = ji4 := hji4
 obtain ⟨ji5, hji5⟩ : ∃ j_ : Int, (mx (wrap64 (-(ji3))) (ji4)) = j_ := ⟨_, rfl⟩
 replace H : (some ji5) = some r := by first | (rw [hji5] at H; exact H) | (simp only [hji5] at H ⊢; exact H)
 have hji5_ : (if (wrap64 (-(ji3))) < (ji4) then (ji4) else (wrap64 (-(ji3)))) = ji5 := hji5
 obtain rfl := Option.some.inj H
 go_enter Tryz.func138, Tryz.ntmps138
 go_wp2
 go_ret
 exact ⟨by first | rfl | (simp [errW_none, errW_some] <;> rfl) | (simp only [← hji3, ← hji4, ← hji5]; first | rfl | (simp [errW_none, errW_some] <;> rfl)) | (simp [*, errW_none, errW_some] <;> rfl), b_R⟩
def gate_right.f (a0 : Int) (a1 : Int) : Option (Bool) := (fix_Fits.f a0).bind fun t140 => (if t140 = true then ((fix_Fits.f a1).bind fun t141 => (if t141 = true then (some (decide (a1 ≥ 1))) else (some false))) else (some false))
set_option maxHeartbeats 8000000 in
set_option maxRecDepth 100000 in
theorem gate_right.calls (a0 : Int) (a1 : Int) (r : Bool) (w : World) (h : gate_right.f a0 a1 = some r) :
  Calls Tryz.prog 106 #[a0, a1] w fun e w' => e = .returned (.bool r) ∧ Drawn0 w w' := by
 have H : ((fix_Fits.f a0).bind fun t140 => (if t140 = true then ((fix_Fits.f a1).bind fun t141 => (if t141 = true then (some (decide (a1 ≥ 1))) else (some false))) else (some false))) = some r := h
 clear h
 replace H := Option.bind_eq_some_iff.mp H
 obtain ⟨t140, A30, H⟩ := H
 replace H : (if t140 = true then ((fix_Fits.f a1).bind fun t141 => (if t141 = true then (some (decide (a1 ≥ 1))) else (some false))) else (some false)) = some r := H
 have A3 := am A30
 clear A30
 by_cases c4 : t140 = true
 ·
  subst c4
  have H1 : ((fix_Fits.f a1).bind fun t141 => (if t141 = true then (some (decide (a1 ≥ 1))) else (some false))) = some r := by rw [if_pos rfl] at H; exact H
  clear H
  have H := H1
  clear H1
  replace H := Option.bind_eq_some_iff.mp H
  obtain ⟨t141, A50, H⟩ := H
  replace H : (if t141 = true then (some (decide (a1 ≥ 1))) else (some false)) = some r := H
  have A5 := am A50
  clear A50
  by_cases c6 : t141 = true
  ·
   subst c6
   have H1 : (some (decide (a1 ≥ 1))) = some r := by rw [if_pos rfl] at H; exact H
   clear H
   have H := H1
   clear H1
   obtain rfl := Option.some.inj H
   go_enter Tryz.func106, Tryz.ntmps106
   go_wp2_with (first | ((with_reducible refine gate_callee (f := 90) rfl ?_); refine g_L 6 Tryz.func90 #[a0] ?_; (with_reducible refine (fix_Fits.calls a0 true _ A3.out).mono ?_); rintro e w' ⟨rfl, ⟨nd, rfl⟩⟩; refine ⟨_, rfl, ?_⟩) | (go_at_call 90; (with_reducible refine (fix_Fits.calls a1 true _ A5.out).mono ?_); rintro e w' ⟨rfl, ⟨nd, rfl⟩⟩))
   go_ret
   exact f_0
  replace c6 := Bool.eq_false_iff.mpr c6
  subst c6
  have H1 : (some false) = some r := by rw [if_neg (show ¬ (false = true) by decide)] at H; exact H
  clear H
  have H := H1
  clear H1
  obtain rfl := Option.some.inj H
  go_enter Tryz.func106, Tryz.ntmps106
  go_wp2_with (first | ((with_reducible refine gate_callee (f := 90) rfl ?_); refine g_L 6 Tryz.func90 #[a0] ?_; (with_reducible refine (fix_Fits.calls a0 true _ A3.out).mono ?_); rintro e w' ⟨rfl, ⟨nd, rfl⟩⟩; refine ⟨_, rfl, ?_⟩) | (go_at_call 90; (with_reducible refine (fix_Fits.calls a1 false _ A5.out).mono ?_); rintro e w' ⟨rfl, ⟨nd, rfl⟩⟩))
  go_ret
  exact f_0
 replace c4 := Bool.eq_false_iff.mpr c4
 subst c4
 have H1 : (some false) = some r := by rw [if_neg (show ¬ (false = true) by decide)] at H; exact H
 clear H
 have H := H1
 clear H1
 obtain rfl := Option.some.inj H
 go_enter Tryz.func106, Tryz.ntmps106
 go_wp2_with (first | ((with_reducible refine gate_callee (f := 90) rfl ?_); refine g_L 6 Tryz.func90 #[a0] ?_; (with_reducible refine (fix_Fits.calls a0 false _ A3.out).mono ?_); rintro e w' ⟨rfl, ⟨nd, rfl⟩⟩; refine ⟨_, rfl, ?_⟩))
 go_ret
 exact f_0
def cmp_Or_int.l0 : Nat → Int → List Int → Int → Int → Option (Int)
 | 0, _, _, _, _ => none
 | k + 1, x3, x6, x7, x8 => if x8 < x7 then (if 0 ≤ x8 then (if x8 < (x6.length : Int) then (if (rd x6 x8) = x3 then (cmp_Or_int.l0 k x3 x6 x7 (wrap64 (x8 + 1))) else (some (rd x6 x8))) else (none)) else (none)) else (some x3)
def cmp_Or_int.f (k : Nat) (l0 : List Int) : Option (Int) := cmp_Or_int.l0 k 0 l0 (l0.length : Int) 0
set_option maxHeartbeats 8000000 in
set_option maxRecDepth 100000 in
theorem cmp_Or_int.calls (k : Nat) (A0 : Option Addr) (c0 : Nat) (l0 : List Int) (r : Int) (w : World) (hr0 : Kd.C (Kd.int .i64) w A0 l0.length l0) (hc0 : l0.length ≤ c0) (h : cmp_Or_int.f k l0 = some r) :
  Calls Tryz.prog 141 #[.slice A0 l0.length c0] w fun e w' => e = .returned (.int .i64 r) ∧ Drawn0 w w' := by
 have HR0 := am hr0
 have HC0 := am hc0
 clear hr0 hc0
 have H : (cmp_Or_int.l0 k 0 l0 (l0.length : Int) 0) = some r := h
 clear h
 have H' := am H
 clear H
 go_enter Tryz.func141, Tryz.ntmps141
 go_wp2
 go_loopg [8] k (fun kq v8 w' => ∃ (x8_1 : Int), v8 = .int .i64 x8_1 ∧ Aside0 (cmp_Or_int.l0 kq 0 l0 (l0.length : Int) x8_1 = some r) ∧ Aside0 (kq ≤ k) ∧ Drawn0 w w')
 case atStart => exact ⟨(0), (by first | rfl | (simp; done) | (simp [*]; done)), H', ⟨Nat.le_refl _⟩, by repeat (first | exact Drawn0.refl _ | apply Drawn0.step)⟩
 case round =>
  clear H'
  try clear c1
  obtain ⟨x8_1, rfl, HA, HK1, ⟨m1, rfl⟩⟩ := hrel
  cases gk with
  | zero => exact absurd HA.out (by simp [cmp_Or_int.l0])
  | succ k1 =>
   have H := HA.out
   clear HA
   simp only [cmp_Or_int.l0] at H
   by_cases c2 : x8_1 < (l0.length : Int)
   ·
    rw [if_pos c2] at H
    have c2b0 : decide (x8_1 < (l0.length : Int)) = true := decide_eq_true c2
    clear c2
    by_cases c3 : 0 ≤ x8_1
    ·
     rw [if_pos c3] at H
     have c3b0 : decide (0 ≤ x8_1) = true := decide_eq_true c3
     clear c3
     by_cases c4 : x8_1 < (l0.length : Int)
     ·
      rw [if_pos c4] at H
      have c4b0 : decide (x8_1 < (l0.length : Int)) = true := decide_eq_true c4
      clear c4
      by_cases c5 : (rd l0 x8_1) = 0
      ·
       rw [if_pos c5] at H
       have c5b0 : ((rd l0 x8_1) == 0) = true := beq_iff_eq.mpr c5
       have c5b1 : ((rd l0 x8_1) != 0) = false := bne_eq_false_iff_eq.mpr c5
       clear c5
       have H' := am H
       clear H
       have p144 : 0 ≤ (x8_1 : Int) := of_decide_eq_true (by first | (with_reducible assumption) | assumption)
       have q144 : x8_1 < (l0.length : Int) := of_decide_eq_true (by first | (with_reducible assumption) | assumption)
       obtain ⟨ad144, e144, hx144_0⟩ := Kd.at_int HR0.out x8_1 p144 q144
       cases e144
       replace p144 := eq_true p144
       replace q144 := eq_true q144
       go_wp2
       go_roundg k1
       case measure => have := HK1.out; omega
       case rel => exact ⟨(wrap64 (x8_1 + 1)), (by first | rfl | (simp; done) | (simp [*]; done)), H', ⟨by have := HK1.out; omega⟩, by repeat (first | exact Drawn0.refl _ | apply Drawn0.step)⟩
      rw [if_neg c5] at H
      have c5b0 : ((rd l0 x8_1) == 0) = false := beq_eq_false_iff_ne.mpr c5
      have c5b1 : ((rd l0 x8_1) != 0) = true := bne_iff_ne.mpr c5
      obtain rfl := Option.some.inj H
      have p144 : 0 ≤ (x8_1 : Int) := of_decide_eq_true (by first | (with_reducible assumption) | assumption)
      have q144 : x8_1 < (l0.length : Int) := of_decide_eq_true (by first | (with_reducible assumption) | assumption)
      obtain ⟨ad144, e144, hx144_0⟩ := Kd.at_int HR0.out x8_1 p144 q144
      cases e144
      replace p144 := eq_true p144
      replace q144 := eq_true q144
      go_wp2
      go_ret
      exact f_0
     rw [if_neg c4] at H
     exact absurd H (by simp)
    rw [if_neg c3] at H
    exact absurd H (by simp)
   rw [if_neg c2] at H
   have c2b0 : decide (x8_1 < (l0.length : Int)) = false := decide_eq_false c2
   clear c2
   obtain rfl := Option.some.inj H
   go_wp2
   go_ret
   exact f_0
def cmp_isNaN_int64.f (a0 : Int) : Option (Bool) := some (a0 != a0)
set_option maxHeartbeats 8000000 in
set_option maxRecDepth 100000 in
theorem cmp_isNaN_int64.calls (a0 : Int) (r : Bool) (w : World) (h : cmp_isNaN_int64.f a0 = some r) :
  Calls Tryz.prog 156 #[a0] w fun e w' => e = .returned (.bool r) ∧ Drawn0 w w' := by
 have H : (some (a0 != a0)) = some r := h
 clear h
 obtain rfl := Option.some.inj H
 go_enter Tryz.func156, Tryz.ntmps156
 go_wp2
 go_ret
 exact f_0
def cmp_Compare_int64.f (a0 : Int) (a1 : Int) : Option (Int) := (cmp_isNaN_int64.f a0).bind fun t145 => ((cmp_isNaN_int64.f a1).bind fun t146 => (if t145 = true then (if t146 = true then (some 0) else (some (-1))) else (if t146 = true then (some 1) else (if a0 < a1 then (some (-1)) else (if a0 > a1 then (some 1) else (some 0))))))
set_option maxHeartbeats 8000000 in
set_option maxRecDepth 100000 in
theorem cmp_Compare_int64.calls (a0 : Int) (a1 : Int) (r : Int) (w : World) (h : cmp_Compare_int64.f a0 a1 = some r) :
  Calls Tryz.prog 142 #[a0, a1] w fun e w' => e = .returned (.int .i64 r) ∧ Drawn0 w w' := by
 have H : ((cmp_isNaN_int64.f a0).bind fun t145 => ((cmp_isNaN_int64.f a1).bind fun t146 => (if t145 = true then (if t146 = true then (some 0) else (some (-1))) else (if t146 = true then (some 1) else (if a0 < a1 then (some (-1)) else (if a0 > a1 then (some 1) else (some 0))))))) = some r := h
 clear h
 replace H := Option.bind_eq_some_iff.mp H
 obtain ⟨t145, A30, H⟩ := H
 replace H : ((cmp_isNaN_int64.f a1).bind fun t146 => (if t145 = true then (if t146 = true then (some 0) else (some (-1))) else (if t146 = true then (some 1) else (if a0 < a1 then (some (-1)) else (if a0 > a1 then (some 1) else (some 0)))))) = some r := H
 have A3 := am A30
 clear A30
 replace H := Option.bind_eq_some_iff.mp H
 obtain ⟨t146, A40, H⟩ := H
 replace H : (if t145 = true then (if t146 = true then (some 0) else (some (-1))) else (if t146 = true then (some 1) else (if a0 < a1 then (some (-1)) else (if a0 > a1 then (some 1) else (some 0))))) = some r := H
 have A4 := am A40
 clear A40
 by_cases c5 : t145 = true
 ·
  subst c5
  have H1 : (if t146 = true then (some 0) else (some (-1))) = some r := by rw [if_pos rfl] at H; exact H
  clear H
  have H := H1
  clear H1
  by_cases c6 : t146 = true
  ·
   subst c6
   have H1 : (some 0) = some r := by rw [if_pos rfl] at H; exact H
   clear H
   have H := H1
   clear H1
   obtain rfl := Option.some.inj H
   go_enter Tryz.func142, Tryz.ntmps142
   go_wp2_with (first | ((with_reducible refine gate_callee (f := 156) rfl ?_); refine g_L 8 Tryz.func156 #[a0] ?_; (with_reducible refine (cmp_isNaN_int64.calls a0 true _ A3.out).mono ?_); rintro e w' ⟨rfl, ⟨nd, rfl⟩⟩; refine ⟨_, rfl, ?_⟩) | ((with_reducible refine gate_callee (f := 156) rfl ?_); refine g_L 10 Tryz.func156 #[a1] ?_; (with_reducible refine (cmp_isNaN_int64.calls a1 true _ A4.out).mono ?_); rintro e w' ⟨rfl, ⟨nd, rfl⟩⟩; refine ⟨_, rfl, ?_⟩))
   go_ret
   exact f_0
  replace c6 := Bool.eq_false_iff.mpr c6
  subst c6
  have H1 : (some (-1)) = some r := by rw [if_neg (show ¬ (false = true) by decide)] at H; exact H
  clear H
  have H := H1
  clear H1
  obtain rfl := Option.some.inj H
  go_enter Tryz.func142, Tryz.ntmps142
  go_wp2_with (first | ((with_reducible refine gate_callee (f := 156) rfl ?_); refine g_L 8 Tryz.func156 #[a0] ?_; (with_reducible refine (cmp_isNaN_int64.calls a0 true _ A3.out).mono ?_); rintro e w' ⟨rfl, ⟨nd, rfl⟩⟩; refine ⟨_, rfl, ?_⟩) | ((with_reducible refine gate_callee (f := 156) rfl ?_); refine g_L 10 Tryz.func156 #[a1] ?_; (with_reducible refine (cmp_isNaN_int64.calls a1 false _ A4.out).mono ?_); rintro e w' ⟨rfl, ⟨nd, rfl⟩⟩; refine ⟨_, rfl, ?_⟩))
  go_ret
  exact f_0
 replace c5 := Bool.eq_false_iff.mpr c5
 subst c5
 have H1 : (if t146 = true then (some 1) else (if a0 < a1 then (some (-1)) else (if a0 > a1 then (some 1) else (some 0)))) = some r := by rw [if_neg (show ¬ (false = true) by decide)] at H; exact H
 clear H
 have H := H1
 clear H1
 by_cases c7 : t146 = true
 ·
  subst c7
  have H1 : (some 1) = some r := by rw [if_pos rfl] at H; exact H
  clear H
  have H := H1
  clear H1
  obtain rfl := Option.some.inj H
  go_enter Tryz.func142, Tryz.ntmps142
  go_wp2_with (first | ((with_reducible refine gate_callee (f := 156) rfl ?_); refine g_L 8 Tryz.func156 #[a0] ?_; (with_reducible refine (cmp_isNaN_int64.calls a0 false _ A3.out).mono ?_); rintro e w' ⟨rfl, ⟨nd, rfl⟩⟩; refine ⟨_, rfl, ?_⟩) | ((with_reducible refine gate_callee (f := 156) rfl ?_); refine g_L 10 Tryz.func156 #[a1] ?_; (with_reducible refine (cmp_isNaN_int64.calls a1 true _ A4.out).mono ?_); rintro e w' ⟨rfl, ⟨nd, rfl⟩⟩; refine ⟨_, rfl, ?_⟩))
  go_ret
  exact f_0
 replace c7 := Bool.eq_false_iff.mpr c7
 subst c7
 have H1 : (if a0 < a1 then (some (-1)) else (if a0 > a1 then (some 1) else (some 0))) = some r := by rw [if_neg (show ¬ (false = true) by decide)] at H; exact H
 clear H
 have H := H1
 clear H1
 by_cases c8 : a0 < a1
 ·
  rw [if_pos c8] at H
  have c8b0 : decide (a0 < a1) = true := decide_eq_true c8
  clear c8
  obtain rfl := Option.some.inj H
  go_enter Tryz.func142, Tryz.ntmps142
  go_wp2_with (first | ((with_reducible refine gate_callee (f := 156) rfl ?_); refine g_L 8 Tryz.func156 #[a0] ?_; (with_reducible refine (cmp_isNaN_int64.calls a0 false _ A3.out).mono ?_); rintro e w' ⟨rfl, ⟨nd, rfl⟩⟩; refine ⟨_, rfl, ?_⟩) | ((with_reducible refine gate_callee (f := 156) rfl ?_); refine g_L 10 Tryz.func156 #[a1] ?_; (with_reducible refine (cmp_isNaN_int64.calls a1 false _ A4.out).mono ?_); rintro e w' ⟨rfl, ⟨nd, rfl⟩⟩; refine ⟨_, rfl, ?_⟩))
  go_ret
  exact f_0
 rw [if_neg c8] at H
 have c8b0 : decide (a0 < a1) = false := decide_eq_false c8
 clear c8
 by_cases c9 : a0 > a1
 ·
  rw [if_pos c9] at H
  have c9b0 : decide (a1 < a0) = true := decide_eq_true c9
  clear c9
  obtain rfl := Option.some.inj H
  go_enter Tryz.func142, Tryz.ntmps142
  go_wp2_with (first | ((with_reducible refine gate_callee (f := 156) rfl ?_); refine g_L 8 Tryz.func156 #[a0] ?_; (with_reducible refine (cmp_isNaN_int64.calls a0 false _ A3.out).mono ?_); rintro e w' ⟨rfl, ⟨nd, rfl⟩⟩; refine ⟨_, rfl, ?_⟩) | ((with_reducible refine gate_callee (f := 156) rfl ?_); refine g_L 10 Tryz.func156 #[a1] ?_; (with_reducible refine (cmp_isNaN_int64.calls a1 false _ A4.out).mono ?_); rintro e w' ⟨rfl, ⟨nd, rfl⟩⟩; refine ⟨_, rfl, ?_⟩))
  go_ret
  exact f_0
 rw [if_neg c9] at H
 have c9b0 : decide (a1 < a0) = false := decide_eq_false c9
 clear c9
 obtain rfl := Option.some.inj H
 go_enter Tryz.func142, Tryz.ntmps142
 go_wp2_with (first | ((with_reducible refine gate_callee (f := 156) rfl ?_); refine g_L 8 Tryz.func156 #[a0] ?_; (with_reducible refine (cmp_isNaN_int64.calls a0 false _ A3.out).mono ?_); rintro e w' ⟨rfl, ⟨nd, rfl⟩⟩; refine ⟨_, rfl, ?_⟩) | ((with_reducible refine gate_callee (f := 156) rfl ?_); refine g_L 10 Tryz.func156 #[a1] ?_; (with_reducible refine (cmp_isNaN_int64.calls a1 false _ A4.out).mono ?_); rintro e w' ⟨rfl, ⟨nd, rfl⟩⟩; refine ⟨_, rfl, ?_⟩))
 go_ret
 exact f_0
def cmp_isNaN_uint64.f (a0 : Int) : Option (Bool) := some (a0 != a0)
set_option maxHeartbeats 8000000 in
set_option maxRecDepth 100000 in
theorem cmp_isNaN_uint64.calls (a0 : Int) (r : Bool) (w : World) (h : cmp_isNaN_uint64.f a0 = some r) :
  Calls Tryz.prog 157 #[.int .u64 a0] w fun e w' => e = .returned (.bool r) ∧ Drawn0 w w' := by
 have H : (some (a0 != a0)) = some r := h
 clear h
 obtain rfl := Option.some.inj H
 go_enter Tryz.func157, Tryz.ntmps157
 go_wp2
 go_ret
 exact f_0
def cmp_Compare_uint64.f (a0 : Int) (a1 : Int) : Option (Int) := (cmp_isNaN_uint64.f a0).bind fun t147 => ((cmp_isNaN_uint64.f a1).bind fun t148 => (if t147 = true then (if t148 = true then (some 0) else (some (-1))) else (if t148 = true then (some 1) else (if a0 < a1 then (some (-1)) else (if a0 > a1 then (some 1) else (some 0))))))
set_option maxHeartbeats 8000000 in
set_option maxRecDepth 100000 in
theorem cmp_Compare_uint64.calls (a0 : Int) (a1 : Int) (r : Int) (w : World) (h : cmp_Compare_uint64.f a0 a1 = some r) :
  Calls Tryz.prog 143 #[.int .u64 a0, .int .u64 a1] w fun e w' => e = .returned (.int .i64 r) ∧ Drawn0 w w' := by
 have H : ((cmp_isNaN_uint64.f a0).bind fun t147 => ((cmp_isNaN_uint64.f a1).bind fun t148 => (if t147 = true then (if t148 = true then (some 0) else (some (-1))) else (if t148 = true then (some 1) else (if a0 < a1 then (some (-1)) else (if a0 > a1 then (some 1) else (some 0))))))) = some r := h
 clear h
 replace H := Option.bind_eq_some_iff.mp H
 obtain ⟨t147, A30, H⟩ := H
 replace H : ((cmp_isNaN_uint64.f a1).bind fun t148 => (if t147 = true then (if t148 = true then (some 0) else (some (-1))) else (if t148 = true then (some 1) else (if a0 < a1 then (some (-1)) else (if a0 > a1 then (some 1) else (some 0)))))) = some r := H
 have A3 := am A30
 clear A30
 replace H := Option.bind_eq_some_iff.mp H
 obtain ⟨t148, A40, H⟩ := H
 replace H : (if t147 = true then (if t148 = true then (some 0) else (some (-1))) else (if t148 = true then (some 1) else (if a0 < a1 then (some (-1)) else (if a0 > a1 then (some 1) else (some 0))))) = some r := H
 have A4 := am A40
 clear A40
 by_cases c5 : t147 = true
 ·
  subst c5
  have H1 : (if t148 = true then (some 0) else (some (-1))) = some r := by rw [if_pos rfl] at H; exact H
  clear H
  have H := H1
  clear H1
  by_cases c6 : t148 = true
  ·
   subst c6
   have H1 : (some 0) = some r := by rw [if_pos rfl] at H; exact H
   clear H
   have H := H1
   clear H1
   obtain rfl := Option.some.inj H
   go_enter Tryz.func143, Tryz.ntmps143
   go_wp2_with (first | ((with_reducible refine gate_callee (f := 157) rfl ?_); refine g_L 8 Tryz.func157 #[.int .u64 a0] ?_; (with_reducible refine (cmp_isNaN_uint64.calls a0 true _ A3.out).mono ?_); rintro e w' ⟨rfl, ⟨nd, rfl⟩⟩; refine ⟨_, rfl, ?_⟩) | ((with_reducible refine gate_callee (f := 157) rfl ?_); refine g_L 10 Tryz.func157 #[.int .u64 a1] ?_; (with_reducible refine (cmp_isNaN_uint64.calls a1 true _ A4.out).mono ?_); rintro e w' ⟨rfl, ⟨nd, rfl⟩⟩; refine ⟨_, rfl, ?_⟩))
   go_ret
   exact f_0
  replace c6 := Bool.eq_false_iff.mpr c6
  subst c6
  have H1 : (some (-1)) = some r := by rw [if_neg (show ¬ (false = true) by decide)] at H; exact H
  clear H
  have H := H1
  clear H1
  obtain rfl := Option.some.inj H
  go_enter Tryz.func143, Tryz.ntmps143
  go_wp2_with (first | ((with_reducible refine gate_callee (f := 157) rfl ?_); refine g_L 8 Tryz.func157 #[.int .u64 a0] ?_; (with_reducible refine (cmp_isNaN_uint64.calls a0 true _ A3.out).mono ?_); rintro e w' ⟨rfl, ⟨nd, rfl⟩⟩; refine ⟨_, rfl, ?_⟩) | ((with_reducible refine gate_callee (f := 157) rfl ?_); refine g_L 10 Tryz.func157 #[.int .u64 a1] ?_; (with_reducible refine (cmp_isNaN_uint64.calls a1 false _ A4.out).mono ?_); rintro e w' ⟨rfl, ⟨nd, rfl⟩⟩; refine ⟨_, rfl, ?_⟩))
  go_ret
  exact f_0
 replace c5 := Bool.eq_false_iff.mpr c5
 subst c5
 have H1 : (if t148 = true then (some 1) else (if a0 < a1 then (some (-1)) else (if a0 > a1 then (some 1) else (some 0)))) = some r := by rw [if_neg (show ¬ (false = true) by decide)] at H; exact H
 clear H
 have H := H1
 clear H1
 by_cases c7 : t148 = true
 ·
  subst c7
  have H1 : (some 1) = some r := by rw [if_pos rfl] at H; exact H
  clear H
  have H := H1
  clear H1
  obtain rfl := Option.some.inj H
  go_enter Tryz.func143, Tryz.ntmps143
  go_wp2_with (first | ((with_reducible refine gate_callee (f := 157) rfl ?_); refine g_L 8 Tryz.func157 #[.int .u64 a0] ?_; (with_reducible refine (cmp_isNaN_uint64.calls a0 false _ A3.out).mono ?_); rintro e w' ⟨rfl, ⟨nd, rfl⟩⟩; refine ⟨_, rfl, ?_⟩) | ((with_reducible refine gate_callee (f := 157) rfl ?_); refine g_L 10 Tryz.func157 #[.int .u64 a1] ?_; (with_reducible refine (cmp_isNaN_uint64.calls a1 true _ A4.out).mono ?_); rintro e w' ⟨rfl, ⟨nd, rfl⟩⟩; refine ⟨_, rfl, ?_⟩))
  go_ret
  exact f_0
 replace c7 := Bool.eq_false_iff.mpr c7
 subst c7
 have H1 : (if a0 < a1 then (some (-1)) else (if a0 > a1 then (some 1) else (some 0))) = some r := by rw [if_neg (show ¬ (false = true) by decide)] at H; exact H
 clear H
 have H := H1
 clear H1
 by_cases c8 : a0 < a1
 ·
  rw [if_pos c8] at H
  have c8b0 : decide (a0 < a1) = true := decide_eq_true c8
  clear c8
  obtain rfl := Option.some.inj H
  go_enter Tryz.func143, Tryz.ntmps143
  go_wp2_with (first | ((with_reducible refine gate_callee (f := 157) rfl ?_); refine g_L 8 Tryz.func157 #[.int .u64 a0] ?_; (with_reducible refine (cmp_isNaN_uint64.calls a0 false _ A3.out).mono ?_); rintro e w' ⟨rfl, ⟨nd, rfl⟩⟩; refine ⟨_, rfl, ?_⟩) | ((with_reducible refine gate_callee (f := 157) rfl ?_); refine g_L 10 Tryz.func157 #[.int .u64 a1] ?_; (with_reducible refine (cmp_isNaN_uint64.calls a1 false _ A4.out).mono ?_); rintro e w' ⟨rfl, ⟨nd, rfl⟩⟩; refine ⟨_, rfl, ?_⟩))
  go_ret
  exact f_0
 rw [if_neg c8] at H
 have c8b0 : decide (a0 < a1) = false := decide_eq_false c8
 clear c8
 by_cases c9 : a0 > a1
 ·
  rw [if_pos c9] at H
  have c9b0 : decide (a1 < a0) = true := decide_eq_true c9
  clear c9
  obtain rfl := Option.some.inj H
  go_enter Tryz.func143, Tryz.ntmps143
  go_wp2_with (first | ((with_reducible refine gate_callee (f := 157) rfl ?_); refine g_L 8 Tryz.func157 #[.int .u64 a0] ?_; (with_reducible refine (cmp_isNaN_uint64.calls a0 false _ A3.out).mono ?_); rintro e w' ⟨rfl, ⟨nd, rfl⟩⟩; refine ⟨_, rfl, ?_⟩) | ((with_reducible refine gate_callee (f := 157) rfl ?_); refine g_L 10 Tryz.func157 #[.int .u64 a1] ?_; (with_reducible refine (cmp_isNaN_uint64.calls a1 false _ A4.out).mono ?_); rintro e w' ⟨rfl, ⟨nd, rfl⟩⟩; refine ⟨_, rfl, ?_⟩))
  go_ret
  exact f_0
 rw [if_neg c9] at H
 have c9b0 : decide (a1 < a0) = false := decide_eq_false c9
 clear c9
 obtain rfl := Option.some.inj H
 go_enter Tryz.func143, Tryz.ntmps143
 go_wp2_with (first | ((with_reducible refine gate_callee (f := 157) rfl ?_); refine g_L 8 Tryz.func157 #[.int .u64 a0] ?_; (with_reducible refine (cmp_isNaN_uint64.calls a0 false _ A3.out).mono ?_); rintro e w' ⟨rfl, ⟨nd, rfl⟩⟩; refine ⟨_, rfl, ?_⟩) | ((with_reducible refine gate_callee (f := 157) rfl ?_); refine g_L 10 Tryz.func157 #[.int .u64 a1] ?_; (with_reducible refine (cmp_isNaN_uint64.calls a1 false _ A4.out).mono ?_); rintro e w' ⟨rfl, ⟨nd, rfl⟩⟩; refine ⟨_, rfl, ?_⟩))
 go_ret
 exact f_0
def wide_Cmp.f (k : Nat) (a0_0 : Int) (a0_1 : Int) (a1_0 : Int) (a1_1 : Int) : Option (Int) := (cmp_Compare_int64.f a0_0 a1_0).bind fun t151 => ((cmp_Compare_uint64.f a0_1 a1_1).bind fun t152 => ((cmp_Or_int.f k (([t151, t152] : List Int))).bind fun t156 => (some t156)))
def wide_Cmp.T1 : Bool × List (List Nat × List Nat) := (true, [([], []), ([0], [0]), ([], []), ([2], [2]), ([1, 3], [1, 3]), ([], []), ([5], [5]), ([], []), ([7], [7]), ([6, 8, 4], [6, 8]), ([4, 9], [4, 9]), ([10, 9], [10]), ([11, 11, 0, 1, 2, 3, 4, 5, 6, 7, 8, 9, 10, 11], [11])])
def wide_Cmp.B1 : List Nat := [0, 1, 0, 4, 15, 0, 32, 0, 128, 511, 1023, 2047, 4095]
theorem wide_Cmp.tab1 : rtab .any (opsOf Tryz.f108 1) = wide_Cmp.T1 := by kernel_rfl
theorem wide_Cmp.bits1 : waitsOk wide_Cmp.T1.2 wide_Cmp.B1 = true := by kernel_rfl
set_option maxHeartbeats 8000000 in
set_option maxRecDepth 100000 in
theorem wide_Cmp.calls (k : Nat) (a0_0 : Int) (a0_1 : Int) (a1_0 : Int) (a1_1 : Int) (r : Int) (w : World) (h : wide_Cmp.f k a0_0 a0_1 a1_0 a1_1 = some r) :
  Calls Tryz.prog 108 #[.agg #[a0_0, .int .u64 a0_1], .agg #[a1_0, .int .u64 a1_1]] w fun e w' => e = .returned (.int .i64 r) ∧ Below w.heap.size w w' := by
 have hu124 := Tryz.underlying124
 have HB := am (Below.refl w.heap.size w)
 have H : ((cmp_Compare_int64.f a0_0 a1_0).bind fun t151 => ((cmp_Compare_uint64.f a0_1 a1_1).bind fun t152 => ((cmp_Or_int.f k (([t151, t152] : List Int))).bind fun t156 => (some t156)))) = some r := h
 clear h
 replace H := Option.bind_eq_some_iff.mp H
 obtain ⟨t151, A30, H⟩ := H
 replace H : ((cmp_Compare_uint64.f a0_1 a1_1).bind fun t152 => ((cmp_Or_int.f k (([t151, t152] : List Int))).bind fun t156 => (some t156))) = some r := H
 have A3 := am A30
 clear A30
 replace H := Option.bind_eq_some_iff.mp H
 obtain ⟨t152, A40, H⟩ := H
 replace H : ((cmp_Or_int.f k (([t151, t152] : List Int))).bind fun t156 => (some t156)) = some r := H
 have A4 := am A40
 clear A40
 obtain ⟨y153, hy153⟩ : ∃ y_ : List Int, y_ = (([t151, t152] : List Int)) := ⟨_, rfl⟩
 replace H : ((cmp_Or_int.f k y153).bind fun t156 => (some t156)) = some r := by first | (rw [hy153]; with_reducible exact H) | (have H2_ := (Option.bind_some _ _).symm.trans H; rw [hy153]; with_reducible exact H2_) | (have H2_ := (Option.bind_some _ _).symm.trans H; with_reducible exact H2_) | with_reducible exact H | (rw [hy153]; exact H) | exact H
 have Ny153 := am hy153
 clear hy153
 replace H := Option.bind_eq_some_iff.mp H
 obtain ⟨t156, A50, H⟩ := H
 replace H : (some t156) = some r := H
 have A5 := am A50
 clear A50
 obtain rfl := Option.some.inj H
 go_enter Tryz.func108, Tryz.ntmps108
 try go_wp2_with (first | ((with_reducible refine gate_dst (N := 2) rfl ?_); refine box_event ?hg (N := 2) ?hd (cs := #[.int .i64 a0_0, .int .u64 a0_1]) (t := 124) ?hr ?_; (case hd => rfl); (case hg => rfl); (case hr => first | (go_simp; done) | (go_simp; rfl)); intro gb149 hg w6 hbox hb; have n0_ := am (below_step (b_R) hb); have n1_ := am (hbox); have n2_ := am ((by rw [hg]; exact (below_size (b_R)) : w.heap.size ≤ gb149)); have n3_ := am ((by rw [hg]; exact (below_size (b_R)) : w.heap.size ≤ gb149)); clear HB; have HB := n0_; have BK149 := n1_; have GW149 := n2_; have GE149 := n3_; clear n0_ n1_ n2_ n3_; clear hb hbox hg) | ((with_reducible refine gate_dst (N := 3) rfl ?_); refine box_event ?hg (N := 3) ?hd (cs := #[.int .i64 a1_0, .int .u64 a1_1]) (t := 124) ?hr ?_; (case hd => rfl); (case hg => rfl); (case hr => first | (go_simp; done) | (go_simp; rfl)); intro gb150 hg w7 hbox hb; have n0_ := am (blk_below (g := gb149) (o := .cells #[a0_0, .int .u64 a0_1] 124 (0, 0)) (by (with_reducible repeat (first | refine blk_drewN ?_ _ | refine blk_drew ?_ | refine blk_alloc ?_ _)); exact BK149.out) hb); have n1_ := am (below_step (by repeat (first | (with_reducible first | exact HB.out | apply below_alloc | apply pw_below_drewN | apply below_drew1 | refine below_set ?_ GE149.out) | exact HB.out)) hb); have n2_ := am (hbox); have n3_ := am ((by rw [hg]; exact (below_size (by repeat (first | (with_reducible first | exact HB.out | apply below_alloc | apply pw_below_drewN | apply below_drew1 | refine below_set ?_ GE149.out) | exact HB.out))) : w.heap.size ≤ gb150)); have n4_ := am ((by rw [hg]; exact (below_size (by repeat (first | (with_reducible first | exact HB.out | apply below_alloc | apply pw_below_drewN | apply below_drew1 | refine below_set ?_ GE149.out) | exact HB.out))) : w.heap.size ≤ gb150)); have n5_ := am ((by rw [hg]; exact Nat.ne_of_lt (blk_lt (g := gb149) (o := .cells #[a0_0, .int .u64 a0_1] 124 (0, 0)) (by (with_reducible repeat (first | refine blk_drewN ?_ _ | refine blk_drew ?_ | refine blk_alloc ?_ _)); exact BK149.out)) : gb149 ≠ gb150)); have n6_ := am ((by rw [hg]; exact Nat.ne_of_gt (blk_lt (g := gb149) (o := .cells #[a0_0, .int .u64 a0_1] 124 (0, 0)) (by (with_reducible repeat (first | refine blk_drewN ?_ _ | refine blk_drew ?_ | refine blk_alloc ?_ _)); exact BK149.out)) : gb150 ≠ gb149)); clear BK149; clear HB; have BK149 := n0_; have HB := n1_; have BK150 := n2_; have GW150 := n3_; have GE150 := n4_; have NB149_150 := n5_; have NB150_149 := n6_; clear n0_ n1_ n2_ n3_ n4_ n5_ n6_; clear hb hbox hg))
 have n0_ := b_d BK149
 have n1_ := b_d BK150
 have n2_ := am (below_drew1 HB.out)
 clear BK149
 clear BK150
 clear HB
 have BK149 := n0_
 have BK150 := n1_
 have HB := n2_
 clear n0_ n1_ n2_
 refine s_t 13 (fun w' => w'.cell? ⟨gb149, 0, none⟩ = some (.int .i64 a0_0) ∧ w'.cell? ⟨gb149, 1, none⟩ = some (.int .u64 a0_1) ∧ w'.cell? ⟨gb150, 0, none⟩ = some (.int .i64 a1_0) ∧ w'.cell? ⟨gb150, 1, none⟩ = some (.int .u64 a1_1)) ⟨(blk_cell BK149.out 0).trans rfl, (blk_cell BK149.out 1).trans rfl, (blk_cell BK150.out 0).trans rfl, (blk_cell BK150.out 1).trans rfl⟩ (fun hHeld => ?_); refine with_tabW wide_Cmp.tab1 wide_Cmp.bits1 (fun HT_ HW_ => ?_)
 generalize w7.drew = w8 at BK149 BK150 HB hHeld ⊢
 refine pure_ (i := 0) (N := some 5) (v := ?_) (a' := ?_) (flg 13 1) rfl rfl (any_of HT_.out (by kernel_rfl)) (fun _ _ _ h => h) (Or.inl ⟨by rfl, ?_⟩) ?_ ?_
 rotate_left
 ·
  intro w'
  go_simp
  with_reducible rfl
 rotate_left
 ·
  simp only [pw]
  rfl
 refine pure_ (i := 2) (N := some 7) (v := ?_) (a' := ?_) (flg 13 5) rfl rfl (any_of HT_.out (by kernel_rfl)) (fun _ _ _ h => h) (Or.inl ⟨by rfl, ?_⟩) ?_ ?_
 rotate_left
 ·
  intro w'
  go_simp
  with_reducible rfl
 rotate_left
 ·
  simp only [pw]
  rfl
 refine pure_ (i := 5) (N := some 10) (v := ?_) (a' := ?_) (flg 13 37) rfl rfl (any_of HT_.out (by kernel_rfl)) (fun _ _ _ h => h) (Or.inl ⟨by rfl, ?_⟩) ?_ ?_
 rotate_left
 ·
  intro w'
  go_simp
  with_reducible rfl
 rotate_left
 ·
  simp only [pw]
  rfl
 refine pure_ (i := 7) (N := some 12) (v := ?_) (a' := ?_) (flg 13 165) rfl rfl (any_of HT_.out (by kernel_rfl)) (fun _ _ _ h => h) (Or.inl ⟨by rfl, ?_⟩) ?_ ?_
 rotate_left
 ·
  intro w'
  go_simp
  with_reducible rfl
 rotate_left
 ·
  simp only [pw]
  rfl
 refine take_ (i := 1) (N := some 6) (v := ?_) (a' := ?_) (flg 13 167) rfl rfl (take_ofW HT_.out HW_.out (by kernel_rfl)) (fun _ _ _ h => h) (Or.inl ⟨by rfl, ?_⟩) hHeld ?_ ?_
 rotate_left
 ·
  rintro w' ⟨s0, s1, s2, s3⟩
  go_simp
  with_reducible rfl
 rotate_left
 ·
  simp only [pw]
  rfl
 refine take_ (i := 3) (N := some 8) (v := ?_) (a' := ?_) (flg 13 175) rfl rfl (take_ofW HT_.out HW_.out (by kernel_rfl)) (fun _ _ _ h => h) (Or.inl ⟨by rfl, ?_⟩) hHeld ?_ ?_
 rotate_left
 ·
  rintro w' ⟨s0, s1, s2, s3⟩
  go_simp
  with_reducible rfl
 rotate_left
 ·
  simp only [pw]
  rfl
 refine take_ (i := 6) (N := some 11) (v := ?_) (a' := ?_) (flg 13 239) rfl rfl (take_ofW HT_.out HW_.out (by kernel_rfl)) (fun _ _ _ h => h) (Or.inl ⟨by rfl, ?_⟩) hHeld ?_ ?_
 rotate_left
 ·
  rintro w' ⟨s0, s1, s2, s3⟩
  go_simp
  with_reducible rfl
 rotate_left
 ·
  simp only [pw]
  rfl
 refine take_ (i := 8) (N := some 13) (v := ?_) (a' := ?_) (flg 13 495) rfl rfl (take_ofW HT_.out HW_.out (by kernel_rfl)) (fun _ _ _ h => h) (Or.inl ⟨by rfl, ?_⟩) hHeld ?_ ?_
 rotate_left
 ·
  rintro w' ⟨s0, s1, s2, s3⟩
  go_simp
  with_reducible rfl
 rotate_left
 ·
  simp only [pw]
  rfl
 refine one_ (i := 4) (N := some 9) (flg 13 511) rfl rfl (one_of HT_.out (by kernel_rfl)) (by decide) (fun K hK => ?_)
 refine goes_ Tryz.func142 (by kernel_rfl) rfl #[a0_0, a1_0] (by rfl) rfl rfl (by (try simp only [List.map_toArray, List.map_cons, List.map_nil]); first | done | rfl | (simp only [List.length_drop, List.length_take]; rfl)) ?_
 with_reducible refine (cmp_Compare_int64.calls a0_0 a1_0 t151 _ A3.out).mono ?_
 rintro e w' ⟨rfl, ⟨nd, rfl⟩⟩
 refine ⟨_, rfl, ?_⟩
 refine hK.out _ _ ⟨(blk_cell BK149.out 0).trans rfl, (blk_cell BK149.out 1).trans rfl, (blk_cell BK150.out 0).trans rfl, (blk_cell BK150.out 1).trans rfl⟩ (fun hHeld => ?_)
 clear hK K
 refine n_o 9 ?_
 refine one_ (i := 9) (N := some 14) (flg 13 1023) rfl rfl (one_of HT_.out (by kernel_rfl)) (by decide) (fun K hK => ?_)
 refine goes_ Tryz.func143 (by kernel_rfl) rfl #[.int .u64 a0_1, .int .u64 a1_1] (by rfl) rfl rfl (by (try simp only [List.map_toArray, List.map_cons, List.map_nil]); first | done | rfl | (simp only [List.length_drop, List.length_take]; rfl)) ?_
 with_reducible refine (cmp_Compare_uint64.calls a0_1 a1_1 t152 _ A4.out).mono ?_
 rintro e w' ⟨rfl, ⟨nd, rfl⟩⟩
 refine ⟨_, rfl, ?_⟩
 refine hK.out _ _ ⟨(blk_cell BK149.out 0).trans rfl, (blk_cell BK149.out 1).trans rfl, (blk_cell BK150.out 0).trans rfl, (blk_cell BK150.out 1).trans rfl⟩ (fun hHeld => ?_)
 clear hK K
 refine n_o 14 ?_
 refine one_ (i := 10) (N := some 15) (flg 13 2047) rfl rfl (one_of HT_.out (by kernel_rfl)) (by decide) (fun K hK => ?_)
 refine Kd.R_lit_step (Kd.int .i64) _ 3 ?hg (N := 15) ?hd (xs := ([t151, t152] : List Int)) (inner := [.int .i64 t151, .int .i64 t152]) (ok := fun _ => True) (okp := fun _ => True) ?hr ?hp (fun _ hk => hk) trivial (Below.refl _ _) (Nat.le_refl _) (by simp) ?_; (case hd => rfl); (case hg => rfl); (case hr => first | (go_simp; done) | (go_simp; rfl)); (case hp => exact (Reps.one (show Kd.M (Kd.int .i64) _ _ _ t151 [.int .i64 t151] from rfl) (Reps.one (show Kd.M (Kd.int .i64) _ _ _ t152 [.int .i64 t152] from rfl) (Reps.none _ _))))
 intro v154 w9 ho10 hb hg_ hnew_
 clear hg_ hnew_
 (first | rw [← Ny153.out] at ho10 | (simp only [Int.reduceToNat] at ho10; rw [← Ny153.out] at ho10))
 have n0_ := am (Kd.R_lower ho10 (below_size (by repeat (first | (with_reducible first | exact HB.out | apply below_alloc | apply pw_below_drewN | apply below_drew1 | refine below_set ?_ GE149.out | refine below_set ?_ GE150.out) | exact HB.out))))
 have n1_ := am (blk_below (g := gb149) (o := .cells #[a0_0, .int .u64 a0_1] 124 (0, 0)) (by (with_reducible repeat (first | refine blk_drewN ?_ _ | refine blk_drew ?_ | refine blk_alloc ?_ _)); exact BK149.out) hb)
 have n2_ := am (blk_below (g := gb150) (o := .cells #[a1_0, .int .u64 a1_1] 124 (0, 0)) (by (with_reducible repeat (first | refine blk_drewN ?_ _ | refine blk_drew ?_ | refine blk_alloc ?_ _)); exact BK150.out) hb)
 have n3_ := am (below_step (by repeat (first | (with_reducible first | exact HB.out | apply below_alloc | apply pw_below_drewN | apply below_drew1 | refine below_set ?_ GE149.out | refine below_set ?_ GE150.out) | exact HB.out)) hb)
 clear BK149
 clear BK150
 clear HB
 have HO155 := n0_
 have BK149 := n1_
 have BK150 := n2_
 have HB := n3_
 clear n0_ n1_ n2_ n3_
 clear hb ho10
 obtain ⟨Ao11, co11, eo11⟩ := Kd.R_slice HO155.out
 (first | subst eo11 | (injection eo11 with f1_ f2_ f3_; have f4_ := f1_.symm; have f5_ := f3_.symm; clear f1_ f2_ f3_; subst f4_; subst f5_))
 refine hK.out _ _ ⟨(blk_cell BK149.out 0).trans rfl, (blk_cell BK149.out 1).trans rfl, (blk_cell BK150.out 0).trans rfl, (blk_cell BK150.out 1).trans rfl⟩ (fun hHeld => ?_)
 clear hK K
 refine n_o 15 ?_
 refine one_ (i := 11) (N := some 16) (flg 13 4095) rfl rfl (one_of HT_.out (by kernel_rfl)) (by decide) (fun K hK => ?_)
 refine goes_ Tryz.func141 (by kernel_rfl) rfl #[.slice Ao11 y153.length co11] (by rfl) rfl rfl (by (try simp only [List.map_toArray, List.map_cons, List.map_nil]); first | done | rfl | (simp only [List.length_drop, List.length_take]; rfl)) ?_
 with_reducible refine (cmp_Or_int.calls k _ _ y153 t156 _ ?side1 ?side2 A5.out).mono ?_
 (case side1 => repeat (first | exact (Kd.R_reads' HO155.out).2.2 | (with_reducible refine Kd.C_alloc ?_ _) | (with_reducible refine Kd.C_drewN ?_ _) | (with_reducible refine Kd.C_drew ?_)))
 (case side2 => exact (Kd.R_reads' HO155.out).2.1)
 rintro e w' ⟨rfl, ⟨nd, rfl⟩⟩
 refine ⟨_, rfl, ?_⟩
 refine hK.out _ _ ⟨(blk_cell BK149.out 0).trans rfl, (blk_cell BK149.out 1).trans rfl, (blk_cell BK150.out 0).trans rfl, (blk_cell BK150.out 1).trans rfl⟩ (fun hHeld => ?_)
 clear hK K
 refine n_o 16 ?_
 refine pure_ (i := 12) (N := some 4) (v := ?_) (a' := ?_) (flg 13 8191) rfl rfl (any_of HT_.out (by kernel_rfl)) (fun _ _ _ h => h) (Or.inl ⟨by rfl, ?_⟩) ?_ ?_
 rotate_left
 ·
  intro w'
  go_simp
  with_reducible rfl
 rotate_left
 ·
  simp only [pw]
  rfl
 refine done_ (done_of HT_.out (by kernel_rfl)) ?_
 try go_wp2
 go_ret
 exact ⟨by first | rfl | (simp [errW_none, errW_some] <;> rfl) | (simp [*, errW_none, errW_some] <;> rfl), by repeat (first | (with_reducible first | exact HB.out | apply below_alloc | apply pw_below_drewN | apply below_drew1 | refine below_set ?_ GE149.out | refine below_set ?_ GE150.out) | exact HB.out)⟩
def mode_Clock_Valid.f (a0_0 : Int) (a0_1 : Int) : Option (Bool) := if a0_0 = 1 then (some true) else (some (a0_0 == 2))
def mode_Clock_missed.f (a0_0 : Int) (a0_1 : Int) (a1 : Int) (a2 : Int) : Option (Int × Int) := if (wrap64 (a0_1 + 1)) > a2 then (some (3, 0)) else (if (wrap64 (a0_1 + 1)) ≥ a1 then (some (2, wrap64 (a0_1 + 1))) else (some (1, wrap64 (a0_1 + 1))))
end Go.Proofs.YtpdahkgandaabaaGreatDoor.PTopNames
namespace Go.Proofs.YtpdahkgandaabaaGreatDoor.Ch
open Go.RowKit Go.Proofs.YtpdahkgandaabaaGreatDoorW.PrintWords Go.Proofs.YtpdahkgandaabaaGreatDoorW.PrintLast Go.Proofs.YtpdahkgandaabaaGreatDoorW.PrintMore Go.Proofs.YtpdahkgandaabaaGreatDoor.PTopNames Go.Proofs.YtpdahkgandaabaaGreatDoor.Al
set_option linter.unusedVariables false
set_option linter.unusedSimpArgs false
def U (x : Int) : Prop := 0 ≤ x ∧ x < 18446744073709551616
theorem u_wrap (x : Int) : U (IntKind.u64.wrap x) := by
 show 0 ≤ x % 18446744073709551616 ∧ x % 18446744073709551616 < 18446744073709551616
 omega
def a64 (x y c : Int) : Int := ((x.toNat + y.toNat + c.toNat) % 18446744073709551616 : Nat)
def c64 (x y c : Int) : Int := ((x.toNat + y.toNat + c.toNat) / 18446744073709551616 : Nat)
def s64 (x y c : Int) : Int := ((x.toNat + 18446744073709551616 - y.toNat - c.toNat) % 18446744073709551616 : Nat)
def d64 (x y c : Int) : Int := ((if x.toNat < y.toNat + c.toNat then 1 else 0 : Nat) : Int)
theorem a64_u (x y c : Int) : U (a64 x y c) := by unfold a64 U; omega
theorem s64_u (x y c : Int) : U (s64 x y c) := by unfold s64 U; omega
theorem c64_in {x y c : Int} (hx : U x) (hy : U y) (hc : c.toNat ≤ 1) : (c64 x y c).toNat ≤ 1 := by
 unfold c64 U at *
 omega
theorem d64_in (x y c : Int) : (d64 x y c).toNat ≤ 1 := by unfold d64; split <;> decide
def sub64E : Array Value → Sem Value := fun args => do
 let (x, y, b) ← Extern.MathBitsCarry.three "Sub64" args
 pure (Extern.MathBitsCarry.pair ((x + Extern.MathBitsCarry.m64 - y - b) % Extern.MathBitsCarry.m64) (if x < y + b then 1 else 0))
theorem nat01 {c : Nat} (h : c ≤ 1) : c = 0 ∨ c = 1 := by omega
theorem add64_run (x y c : Int) (hc : c.toNat ≤ 1) (w : World) :
  (callFunc 149 #[.int .u64 x, .int .u64 y, .int .u64 c]).run Tryz.prog w = .ok (.value (.tuple #[.int .u64 (a64 x y c), .int .u64 (c64 x y c)])) w := by
 have key : (add64Entry #[.int .u64 x, .int .u64 y, .int .u64 c]).run Tryz.prog w = .ok (.tuple #[.int .u64 (a64 x y c), .int .u64 (c64 x y c)]) w := by
  unfold a64 c64
  show ((do
   let c' := c.toNat
   if c' > 1 then unsupported _
   pure (x.toNat, y.toNat, c') : Sem (Nat × Nat × Nat)) >>= _).run Tryz.prog w = _
  rw [Sem.run_bind]
  rcases nat01 hc with h | h <;> rw [h] <;> rfl
 rw [run_callFunc_extern Tryz.func149 (by kernel_rfl) (by kernel_rfl) (by kernel_rfl) (e := add64Entry) (by kernel_rfl), key]
 rfl
theorem sub64_run (x y c : Int) (hc : c.toNat ≤ 1) (w : World) :
  (callFunc 153 #[.int .u64 x, .int .u64 y, .int .u64 c]).run Tryz.prog w = .ok (.value (.tuple #[.int .u64 (s64 x y c), .int .u64 (d64 x y c)])) w := by
 have key : (sub64E #[.int .u64 x, .int .u64 y, .int .u64 c]).run Tryz.prog w = .ok (.tuple #[.int .u64 (s64 x y c), .int .u64 (d64 x y c)]) w := by
  unfold s64 d64
  show ((do
   let c' := c.toNat
   if c' > 1 then unsupported _
   pure (x.toNat, y.toNat, c') : Sem (Nat × Nat × Nat)) >>= _).run Tryz.prog w = _
  rw [Sem.run_bind]
  rcases nat01 hc with h | h <;> rw [h] <;> rfl
 rw [run_callFunc_extern Tryz.func153 (by kernel_rfl) (by kernel_rfl) (by kernel_rfl) (e := sub64E) (by kernel_rfl), key]
 rfl
def wide (h l : Int) : Value := .agg #[h, .int .u64 l]
theorem blocks3' (w : World) (x y z : Array Value) (t s r : TypeId) : (((w.alloc (.cells x t)).alloc (.cells y s)).alloc (.cells z r)).heap[w.heap.size + 1 + 1]? = some (.cells z r (0, 0)) ∧ Below w.heap.size w (((w.alloc (.cells x t)).alloc (.cells y s)).alloc (.cells z r)) := by
 obtain ⟨h1, h2, h3⟩ := blocks2 w x y t s
 have h := blk_new ((w.alloc (.cells x t)).alloc (.cells y s)) (.cells z r)
 rw [size1, size1] at h
 exact ⟨h, below_alloc h3 _⟩
set_option maxRecDepth 100000 in
set_option maxHeartbeats 4000000 in
theorem plus_tells (a b c d : Int) (hb : U b) (hd : U d) : ∃ h l, U l ∧ Tells 123 #[wide a b, wide c d] (wide h l) := by
 refine ⟨wrap64 (a64 (IntKind.u64.wrap a) (IntKind.u64.wrap c) (c64 b d 0)), _, a64_u b d 0, fun w hG => ?_⟩
 have r1 := add64_run b d 0 (by decide)
 have r2 := add64_run (IntKind.u64.wrap a) (IntKind.u64.wrap c) (c64 b d 0) (c64_in hb hd (by decide))
 have hB := (blocks3' w #[a, .int .u64 b] #[c, .int .u64 d] #[(), .int .u64 0] 124 124 124)
 unfold wide
 go_enter Tryz.func123, Tryz.ntmps123
 go_wp2_with fail
 refine bodyPost_ret (results_cell_row rfl _ _ (w.heap.size + 1 + 1) 124 _ (0, 0) _ rfl (blocks3' w _ _ _ 124 124 124).1 Tryz.underlying124 rfl (by kernel_rfl)) rfl ⟨rfl, (blocks3' w _ _ _ 124 124 124).2⟩
set_option maxRecDepth 100000 in
set_option maxHeartbeats 4000000 in
theorem less_tells (a b c d : Int) (hb : U b) (hd : U d) : ∃ h l, U l ∧ Tells 133 #[wide a b, wide c d] (wide h l) := by
 refine ⟨wrap64 (s64 (IntKind.u64.wrap a) (IntKind.u64.wrap c) (d64 b d 0)), _, s64_u b d 0, fun w hG => ?_⟩
 have r1 := sub64_run b d 0 (by decide)
 have r2 := sub64_run (IntKind.u64.wrap a) (IntKind.u64.wrap c) (d64 b d 0) (d64_in _ _ _)
 have hB := (blocks3' w #[a, .int .u64 b] #[c, .int .u64 d] #[(), .int .u64 0] 124 124 124)
 unfold wide
 go_enter Tryz.func133, Tryz.ntmps133
 go_wp2_with fail
 refine bodyPost_ret (results_cell_row rfl _ _ (w.heap.size + 1 + 1) 124 _ (0, 0) _ rfl (blocks3' w _ _ _ 124 124 124).1 Tryz.underlying124 rfl (by kernel_rfl)) rfl ⟨rfl, (blocks3' w _ _ _ 124 124 124).2⟩
theorem of_tells (x : Int) : ∃ h l, U l ∧ Tells 79 #[x] (wide h l) := ⟨_, _, u_wrap x, fun w _ => wide_Of.calls x (x / 9223372036854775808) (IntKind.u64.wrap x) w rfl⟩
theorem int_some (h l : Int) : ∃ r e, wide_Int.f h l = some (r, e) := by
 unfold wide_Int.f wide_Of.f
 rw [Option.bind_some]
 split
 ·
  exact ⟨_, _, rfl⟩
 exact ⟨_, _, rfl⟩
theorem int_tells (h l : Int) : ∃ x e, Tells 80 #[wide h l] (Ch.two x e) := by
 obtain ⟨r, e, he⟩ := int_some h l
 exact ⟨r, e, fun w _ => wide_Int.calls h l r e w he⟩
theorem blocks3 (w : World) (x y z : Array Value) (t s r : TypeId) : (((w.alloc (.cells x t)).alloc (.cells y s)).alloc (.cells z r)).heap[w.heap.size]? = some (.cells x t (0, 0)) ∧ (((w.alloc (.cells x t)).alloc (.cells y s)).alloc (.cells z r)).heap[w.heap.size + 1]? = some (.cells y s (0, 0)) ∧
  (((w.alloc (.cells x t)).alloc (.cells y s)).alloc (.cells z r)).heap[w.heap.size + 1 + 1]? = some (.cells z r (0, 0)) ∧ Below w.heap.size w (((w.alloc (.cells x t)).alloc (.cells y s)).alloc (.cells z r)) :=
 ⟨blk_alloc (blocks2 w x y t s).1 _, blk_alloc (blocks2 w x y t s).2.1 _, (blocks3' w x y z t s r).1, (blocks3' w x y z t s r).2⟩
set_option maxRecDepth 100000 in
set_option maxHeartbeats 4000000 in
theorem wadd_tells (a b c d : Int) (hb : U b) (hd : U d) : ∃ h l e, U l ∧ Tells 130 #[wide a b, wide c d] (.tuple #[wide h l, .int .i64 e]) := by
 obtain ⟨h, l, hl, hp⟩ := plus_tells a b c d hb hd
 have HP := am hp
 clear hp hb hd
 unfold wide at HP ⊢
 by_cases h1 : a < 0
 ·
  have d1 : decide (a < 0) = true := decide_eq_true h1
  by_cases h2 : c < 0
  ·
   have d2 : decide (c < 0) = true := decide_eq_true h2
   by_cases h3 : h < 0
   ·
    have d3 : decide (h < 0) = true := decide_eq_true h3
    refine ⟨h, l, 0, hl, fun w hG => ?_⟩
    have HG := am hG
    clear hG
    go_enter Tryz.func130, Tryz.ntmps130
    go_upto_region 1 with fail
    obtain ⟨x2, x3, x4, hB⟩ := blocks3 w #[a, .int .u64 b] #[c, .int .u64 d] #[(), .int .u64 0] 124 124 124
    generalize ((w.alloc (.cells #[a, .int .u64 b] 124)).alloc (.cells #[c, .int .u64 d] 124)).alloc (.cells #[(), .int .u64 0] 124) = w1 at x2 x3 x4 hB ⊢
    obtain ⟨b2, h2⟩ := e_x (w.heap.size)
    obtain ⟨b3, h3⟩ := e_x (w.heap.size + 1)
    obtain ⟨b4, h4⟩ := e_x (w.heap.size + 1 + 1)
    have g4 : w.heap.size ≤ b4 := by omega
    rw [← h4, ← h3, ← h2]
    rw [← h4] at x4
    rw [← h3] at x3
    rw [← h2] at x2
    have HX2 := am x2
    have HX3 := am x3
    have HX4 := am x4
    have HB := am hB
    clear x2 x3 x4 hB h2 h3 h4
    have y20 := b_l HX2 0 rfl
    have y21 := b_l HX2 1 rfl
    have y30 := b_l HX3 0 rfl
    have y31 := b_l HX3 1 rfl
    go_wp2_with fail
    refine (HP.out w1 (HG.out.below HB.out)).mono ?_
    rintro e w2 ⟨rfl, hb⟩
    clear y20 y21 y30 y31
    go_upto_region 2 with fail
    have HY := am (blk_new w2 (.cells #[h, .int .u64 l] 124))
    replace HX2 := am (blk_alloc (blk_below HX2.out hb) (.cells #[h, .int .u64 l] 124))
    replace HX3 := am (blk_alloc (blk_below HX3.out hb) (.cells #[h, .int .u64 l] 124))
    replace HX4 := am (blk_alloc (blk_below HX4.out hb) (.cells #[h, .int .u64 l] 124))
    replace HB := am (below_alloc (below_step HB.out hb) (.cells #[h, .int .u64 l] 124))
    clear hb
    generalize w2.alloc (.cells #[h, .int .u64 l] 124) = w3 at HY HX2 HX3 HX4 HB ⊢
    generalize w2.heap.size = b6 at HY ⊢
    have y20 := b_l HX2 0 rfl
    have y30 := b_l HX3 0 rfl
    have y60 := b_l HY 0 rfl
    have y61 := b_l HY 1 rfl
    have y40 := b_l HX4 0 rfl
    have y41 := b_l HX4 1 rfl
    have f40 := b_z HX4 0
    have f41 := b_z HX4 1
    have hn := (HG.out.below HB.out).none0
    have hn1 := (HG.out.below HB.out).none1
    go_wp2_with fail
    refine bodyPost_ret (results_ct rfl _ _ b4 124 #[h, .int .u64 l] (0, 0) _ rfl (blk_set (blk_set HX4.out 0 (.int .i64 h)) 1 (.int .u64 l)) Tryz.underlying124 rfl (by kernel_rfl)) rfl ⟨rfl, (HB.out.setCell (p := ⟨b4, 0, none⟩) g4 _).setCell (p := ⟨b4, 1, none⟩) g4 _⟩
   have d3 : decide (h < 0) = false := decide_eq_false h3
   refine ⟨0, 0, 3, ⟨by decide, by decide⟩, fun w hG => ?_⟩
   have HG := am hG
   clear hG
   go_enter Tryz.func130, Tryz.ntmps130
   go_upto_region 1 with fail
   obtain ⟨x2, x3, x4, hB⟩ := blocks3 w #[a, .int .u64 b] #[c, .int .u64 d] #[(), .int .u64 0] 124 124 124
   generalize ((w.alloc (.cells #[a, .int .u64 b] 124)).alloc (.cells #[c, .int .u64 d] 124)).alloc (.cells #[(), .int .u64 0] 124) = w1 at x2 x3 x4 hB ⊢
   obtain ⟨b2, h2⟩ := e_x (w.heap.size)
   obtain ⟨b3, h3⟩ := e_x (w.heap.size + 1)
   obtain ⟨b4, h4⟩ := e_x (w.heap.size + 1 + 1)
   have g4 : w.heap.size ≤ b4 := by omega
   rw [← h4, ← h3, ← h2]
   rw [← h4] at x4
   rw [← h3] at x3
   rw [← h2] at x2
   have HX2 := am x2
   have HX3 := am x3
   have HX4 := am x4
   have HB := am hB
   clear x2 x3 x4 hB h2 h3 h4
   have y20 := b_l HX2 0 rfl
   have y21 := b_l HX2 1 rfl
   have y30 := b_l HX3 0 rfl
   have y31 := b_l HX3 1 rfl
   go_wp2_with fail
   refine (HP.out w1 (HG.out.below HB.out)).mono ?_
   rintro e w2 ⟨rfl, hb⟩
   clear y20 y21 y30 y31
   go_upto_region 2 with fail
   have HY := am (blk_new w2 (.cells #[h, .int .u64 l] 124))
   replace HX2 := am (blk_alloc (blk_below HX2.out hb) (.cells #[h, .int .u64 l] 124))
   replace HX3 := am (blk_alloc (blk_below HX3.out hb) (.cells #[h, .int .u64 l] 124))
   replace HX4 := am (blk_alloc (blk_below HX4.out hb) (.cells #[h, .int .u64 l] 124))
   replace HB := am (below_alloc (below_step HB.out hb) (.cells #[h, .int .u64 l] 124))
   clear hb
   generalize w2.alloc (.cells #[h, .int .u64 l] 124) = w3 at HY HX2 HX3 HX4 HB ⊢
   generalize w2.heap.size = b6 at HY ⊢
   have y20 := b_l HX2 0 rfl
   have y30 := b_l HX3 0 rfl
   have y60 := b_l HY 0 rfl
   have y61 := b_l HY 1 rfl
   have y40 := b_l HX4 0 rfl
   have y41 := b_l HX4 1 rfl
   have f40 := b_z HX4 0
   have f41 := b_z HX4 1
   have hn := (HG.out.below HB.out).none0
   have hn1 := (HG.out.below HB.out).none1
   go_wp2_with fail
   refine bodyPost_ret (results_ct rfl _ _ b4 124 #[(), .int .u64 0] (0, 0) _ rfl (blk_set (blk_set HX4.out 0 (.int .i64 0)) 1 (.int .u64 0)) Tryz.underlying124 rfl (by kernel_rfl)) rfl ⟨rfl, (HB.out.setCell (p := ⟨b4, 0, none⟩) g4 _).setCell (p := ⟨b4, 1, none⟩) g4 _⟩
  have d2 : decide (c < 0) = false := decide_eq_false h2
  refine ⟨h, l, 0, hl, fun w hG => ?_⟩
  have HG := am hG
  clear hG
  go_enter Tryz.func130, Tryz.ntmps130
  go_upto_region 1 with fail
  obtain ⟨x2, x3, x4, hB⟩ := blocks3 w #[a, .int .u64 b] #[c, .int .u64 d] #[(), .int .u64 0] 124 124 124
  generalize ((w.alloc (.cells #[a, .int .u64 b] 124)).alloc (.cells #[c, .int .u64 d] 124)).alloc (.cells #[(), .int .u64 0] 124) = w1 at x2 x3 x4 hB ⊢
  obtain ⟨b2, h2⟩ := e_x (w.heap.size)
  obtain ⟨b3, h3⟩ := e_x (w.heap.size + 1)
  obtain ⟨b4, h4⟩ := e_x (w.heap.size + 1 + 1)
  have g4 : w.heap.size ≤ b4 := by omega
  rw [← h4, ← h3, ← h2]
  rw [← h4] at x4
  rw [← h3] at x3
  rw [← h2] at x2
  have HX2 := am x2
  have HX3 := am x3
  have HX4 := am x4
  have HB := am hB
  clear x2 x3 x4 hB h2 h3 h4
  have y20 := b_l HX2 0 rfl
  have y21 := b_l HX2 1 rfl
  have y30 := b_l HX3 0 rfl
  have y31 := b_l HX3 1 rfl
  go_wp2_with fail
  refine (HP.out w1 (HG.out.below HB.out)).mono ?_
  rintro e w2 ⟨rfl, hb⟩
  clear y20 y21 y30 y31
  go_upto_region 2 with fail
  have HY := am (blk_new w2 (.cells #[h, .int .u64 l] 124))
  replace HX2 := am (blk_alloc (blk_below HX2.out hb) (.cells #[h, .int .u64 l] 124))
  replace HX3 := am (blk_alloc (blk_below HX3.out hb) (.cells #[h, .int .u64 l] 124))
  replace HX4 := am (blk_alloc (blk_below HX4.out hb) (.cells #[h, .int .u64 l] 124))
  replace HB := am (below_alloc (below_step HB.out hb) (.cells #[h, .int .u64 l] 124))
  clear hb
  generalize w2.alloc (.cells #[h, .int .u64 l] 124) = w3 at HY HX2 HX3 HX4 HB ⊢
  generalize w2.heap.size = b6 at HY ⊢
  have y20 := b_l HX2 0 rfl
  have y30 := b_l HX3 0 rfl
  have y60 := b_l HY 0 rfl
  have y61 := b_l HY 1 rfl
  have y40 := b_l HX4 0 rfl
  have y41 := b_l HX4 1 rfl
  have f40 := b_z HX4 0
  have f41 := b_z HX4 1
  have hn := (HG.out.below HB.out).none0
  have hn1 := (HG.out.below HB.out).none1
  go_wp2_with fail
  refine bodyPost_ret (results_ct rfl _ _ b4 124 #[h, .int .u64 l] (0, 0) _ rfl (blk_set (blk_set HX4.out 0 (.int .i64 h)) 1 (.int .u64 l)) Tryz.underlying124 rfl (by kernel_rfl)) rfl ⟨rfl, (HB.out.setCell (p := ⟨b4, 0, none⟩) g4 _).setCell (p := ⟨b4, 1, none⟩) g4 _⟩
 have d1 : decide (a < 0) = false := decide_eq_false h1
 by_cases h2 : c < 0
 ·
  have d2 : decide (c < 0) = true := decide_eq_true h2
  refine ⟨h, l, 0, hl, fun w hG => ?_⟩
  have HG := am hG
  clear hG
  go_enter Tryz.func130, Tryz.ntmps130
  go_upto_region 1 with fail
  obtain ⟨x2, x3, x4, hB⟩ := blocks3 w #[a, .int .u64 b] #[c, .int .u64 d] #[(), .int .u64 0] 124 124 124
  generalize ((w.alloc (.cells #[a, .int .u64 b] 124)).alloc (.cells #[c, .int .u64 d] 124)).alloc (.cells #[(), .int .u64 0] 124) = w1 at x2 x3 x4 hB ⊢
  obtain ⟨b2, h2⟩ := e_x (w.heap.size)
  obtain ⟨b3, h3⟩ := e_x (w.heap.size + 1)
  obtain ⟨b4, h4⟩ := e_x (w.heap.size + 1 + 1)
  have g4 : w.heap.size ≤ b4 := by omega
  rw [← h4, ← h3, ← h2]
  rw [← h4] at x4
  rw [← h3] at x3
  rw [← h2] at x2
  have HX2 := am x2
  have HX3 := am x3
  have HX4 := am x4
  have HB := am hB
  clear x2 x3 x4 hB h2 h3 h4
  have y20 := b_l HX2 0 rfl
  have y21 := b_l HX2 1 rfl
  have y30 := b_l HX3 0 rfl
  have y31 := b_l HX3 1 rfl
  go_wp2_with fail
  refine (HP.out w1 (HG.out.below HB.out)).mono ?_
  rintro e w2 ⟨rfl, hb⟩
  clear y20 y21 y30 y31
  go_upto_region 2 with fail
  have HY := am (blk_new w2 (.cells #[h, .int .u64 l] 124))
  replace HX2 := am (blk_alloc (blk_below HX2.out hb) (.cells #[h, .int .u64 l] 124))
  replace HX3 := am (blk_alloc (blk_below HX3.out hb) (.cells #[h, .int .u64 l] 124))
  replace HX4 := am (blk_alloc (blk_below HX4.out hb) (.cells #[h, .int .u64 l] 124))
  replace HB := am (below_alloc (below_step HB.out hb) (.cells #[h, .int .u64 l] 124))
  clear hb
  generalize w2.alloc (.cells #[h, .int .u64 l] 124) = w3 at HY HX2 HX3 HX4 HB ⊢
  generalize w2.heap.size = b6 at HY ⊢
  have y20 := b_l HX2 0 rfl
  have y30 := b_l HX3 0 rfl
  have y60 := b_l HY 0 rfl
  have y61 := b_l HY 1 rfl
  have y40 := b_l HX4 0 rfl
  have y41 := b_l HX4 1 rfl
  have f40 := b_z HX4 0
  have f41 := b_z HX4 1
  have hn := (HG.out.below HB.out).none0
  have hn1 := (HG.out.below HB.out).none1
  go_wp2_with fail
  refine bodyPost_ret (results_ct rfl _ _ b4 124 #[h, .int .u64 l] (0, 0) _ rfl (blk_set (blk_set HX4.out 0 (.int .i64 h)) 1 (.int .u64 l)) Tryz.underlying124 rfl (by kernel_rfl)) rfl ⟨rfl, (HB.out.setCell (p := ⟨b4, 0, none⟩) g4 _).setCell (p := ⟨b4, 1, none⟩) g4 _⟩
 have d2 : decide (c < 0) = false := decide_eq_false h2
 by_cases h3 : h < 0
 ·
  have d3 : decide (h < 0) = true := decide_eq_true h3
  refine ⟨0, 0, 3, ⟨by decide, by decide⟩, fun w hG => ?_⟩
  have HG := am hG
  clear hG
  go_enter Tryz.func130, Tryz.ntmps130
  go_upto_region 1 with fail
  obtain ⟨x2, x3, x4, hB⟩ := blocks3 w #[a, .int .u64 b] #[c, .int .u64 d] #[(), .int .u64 0] 124 124 124
  generalize ((w.alloc (.cells #[a, .int .u64 b] 124)).alloc (.cells #[c, .int .u64 d] 124)).alloc (.cells #[(), .int .u64 0] 124) = w1 at x2 x3 x4 hB ⊢
  obtain ⟨b2, h2⟩ := e_x (w.heap.size)
  obtain ⟨b3, h3⟩ := e_x (w.heap.size + 1)
  obtain ⟨b4, h4⟩ := e_x (w.heap.size + 1 + 1)
  have g4 : w.heap.size ≤ b4 := by omega
  rw [← h4, ← h3, ← h2]
  rw [← h4] at x4
  rw [← h3] at x3
  rw [← h2] at x2
  have HX2 := am x2
  have HX3 := am x3
  have HX4 := am x4
  have HB := am hB
  clear x2 x3 x4 hB h2 h3 h4
  have y20 := b_l HX2 0 rfl
  have y21 := b_l HX2 1 rfl
  have y30 := b_l HX3 0 rfl
  have y31 := b_l HX3 1 rfl
  go_wp2_with fail
  refine (HP.out w1 (HG.out.below HB.out)).mono ?_
  rintro e w2 ⟨rfl, hb⟩
  clear y20 y21 y30 y31
  go_upto_region 2 with fail
  have HY := am (blk_new w2 (.cells #[h, .int .u64 l] 124))
  replace HX2 := am (blk_alloc (blk_below HX2.out hb) (.cells #[h, .int .u64 l] 124))
  replace HX3 := am (blk_alloc (blk_below HX3.out hb) (.cells #[h, .int .u64 l] 124))
  replace HX4 := am (blk_alloc (blk_below HX4.out hb) (.cells #[h, .int .u64 l] 124))
  replace HB := am (below_alloc (below_step HB.out hb) (.cells #[h, .int .u64 l] 124))
  clear hb
  generalize w2.alloc (.cells #[h, .int .u64 l] 124) = w3 at HY HX2 HX3 HX4 HB ⊢
  generalize w2.heap.size = b6 at HY ⊢
  have y20 := b_l HX2 0 rfl
  have y30 := b_l HX3 0 rfl
  have y60 := b_l HY 0 rfl
  have y61 := b_l HY 1 rfl
  have y40 := b_l HX4 0 rfl
  have y41 := b_l HX4 1 rfl
  have f40 := b_z HX4 0
  have f41 := b_z HX4 1
  have hn := (HG.out.below HB.out).none0
  have hn1 := (HG.out.below HB.out).none1
  go_wp2_with fail
  refine bodyPost_ret (results_ct rfl _ _ b4 124 #[(), .int .u64 0] (0, 0) _ rfl (blk_set (blk_set HX4.out 0 (.int .i64 0)) 1 (.int .u64 0)) Tryz.underlying124 rfl (by kernel_rfl)) rfl ⟨rfl, (HB.out.setCell (p := ⟨b4, 0, none⟩) g4 _).setCell (p := ⟨b4, 1, none⟩) g4 _⟩
 have d3 : decide (h < 0) = false := decide_eq_false h3
 refine ⟨h, l, 0, hl, fun w hG => ?_⟩
 have HG := am hG
 clear hG
 go_enter Tryz.func130, Tryz.ntmps130
 go_upto_region 1 with fail
 obtain ⟨x2, x3, x4, hB⟩ := blocks3 w #[a, .int .u64 b] #[c, .int .u64 d] #[(), .int .u64 0] 124 124 124
 generalize ((w.alloc (.cells #[a, .int .u64 b] 124)).alloc (.cells #[c, .int .u64 d] 124)).alloc (.cells #[(), .int .u64 0] 124) = w1 at x2 x3 x4 hB ⊢
 obtain ⟨b2, h2⟩ := e_x (w.heap.size)
 obtain ⟨b3, h3⟩ := e_x (w.heap.size + 1)
 obtain ⟨b4, h4⟩ := e_x (w.heap.size + 1 + 1)
 have g4 : w.heap.size ≤ b4 := by omega
 rw [← h4, ← h3, ← h2]
 rw [← h4] at x4
 rw [← h3] at x3
 rw [← h2] at x2
 have HX2 := am x2
 have HX3 := am x3
 have HX4 := am x4
 have HB := am hB
 clear x2 x3 x4 hB h2 h3 h4
 have y20 := b_l HX2 0 rfl
 have y21 := b_l HX2 1 rfl
 have y30 := b_l HX3 0 rfl
 have y31 := b_l HX3 1 rfl
 go_wp2_with fail
 refine (HP.out w1 (HG.out.below HB.out)).mono ?_
 rintro e w2 ⟨rfl, hb⟩
 clear y20 y21 y30 y31
 go_upto_region 2 with fail
 have HY := am (blk_new w2 (.cells #[h, .int .u64 l] 124))
 replace HX2 := am (blk_alloc (blk_below HX2.out hb) (.cells #[h, .int .u64 l] 124))
 replace HX3 := am (blk_alloc (blk_below HX3.out hb) (.cells #[h, .int .u64 l] 124))
 replace HX4 := am (blk_alloc (blk_below HX4.out hb) (.cells #[h, .int .u64 l] 124))
 replace HB := am (below_alloc (below_step HB.out hb) (.cells #[h, .int .u64 l] 124))
 clear hb
 generalize w2.alloc (.cells #[h, .int .u64 l] 124) = w3 at HY HX2 HX3 HX4 HB ⊢
 generalize w2.heap.size = b6 at HY ⊢
 have y20 := b_l HX2 0 rfl
 have y30 := b_l HX3 0 rfl
 have y60 := b_l HY 0 rfl
 have y61 := b_l HY 1 rfl
 have y40 := b_l HX4 0 rfl
 have y41 := b_l HX4 1 rfl
 have f40 := b_z HX4 0
 have f41 := b_z HX4 1
 have hn := (HG.out.below HB.out).none0
 have hn1 := (HG.out.below HB.out).none1
 go_wp2_with fail
 refine bodyPost_ret (results_ct rfl _ _ b4 124 #[h, .int .u64 l] (0, 0) _ rfl (blk_set (blk_set HX4.out 0 (.int .i64 h)) 1 (.int .u64 l)) Tryz.underlying124 rfl (by kernel_rfl)) rfl ⟨rfl, (HB.out.setCell (p := ⟨b4, 0, none⟩) g4 _).setCell (p := ⟨b4, 1, none⟩) g4 _⟩
end Go.Proofs.YtpdahkgandaabaaGreatDoor.Ch
