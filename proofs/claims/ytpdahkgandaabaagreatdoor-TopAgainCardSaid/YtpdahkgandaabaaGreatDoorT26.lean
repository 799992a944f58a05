/- A part of the proof of TopAgain, where the package's tables hold what their initialisers lay. -/
import Derived.Test.YtpdahkgandaabaaGreatDoorT01
import Derived.Test.YtpdahkgandaabaaGreatDoorT20
import Derived.Test.YtpdahkgandaabaaGreatDoorT25
namespace Go.Proofs.YtpdahkgandaabaaGreatDoor.PDoc
open Go.RowKit Go.Proofs.YtpdahkgandaabaaGreatDoorW.PrintWords Go.Proofs.YtpdahkgandaabaaGreatDoorW.PrintLast Go.Proofs.YtpdahkgandaabaaGreatDoorW.PrintMore
attribute [local go_sem] max2_int min2_int max_two min_two max_three min_three max_four min_four
set_option linter.unusedVariables false
set_option linter.unusedSimpArgs false
mutual
def aneroidref17_Mean.l0 : Nat → List Int → Int → Int → Option (Int × Int)
 | 0, _, _, _ => none
 | k + 1, x0, x4, x5 => if x5 < (x0.length : Int) then (if 0 ≤ x5 then ((aneroidref06_Good.f (rd x0 x5)).bind fun t110 => (if t110 = true then (if (rd x0 x5) < x4 then (aneroidref17_Mean.l0 k x0 (rd x0 x5) (wrap64 (x5 + 1))) else (aneroidref17_Mean.l0 k x0 x4 (wrap64 (x5 + 1)))) else (some (0, 2)))) else (none)) else (aneroidref17_Mean.l1 k x0 x4 0 0)
def aneroidref17_Mean.l1 : Nat → List Int → Int → Int → Int → Option (Int × Int)
 | 0, _, _, _, _ => none
 | k + 1, x0, x4, x6, x7 => if x7 < (x0.length : Int) then (if 0 ≤ x7 then (aneroidref17_Mean.l1 k x0 x4 (wrap64 ((wrap64 (x6 + (rd x0 x7))) - x4)) (wrap64 (x7 + 1))) else (none)) else (aneroidref17_Mean.l2 k x0 x6 x4)
def aneroidref17_Mean.l2 : Nat → List Int → Int → Int → Option (Int × Int)
 | 0, _, _, _ => none
 | k + 1, x0, x6, x8 => if x6 ≥ (x0.length : Int) then (aneroidref17_Mean.l2 k x0 (wrap64 (x6 - (x0.length : Int))) (wrap64 (x8 + 1))) else (some (x8, 0))
end
def aneroidref17_Mean.f (k : Nat) (l0 : List Int) : Option (Int × Int) := if (l0.length : Int) = 0 then (some (0, 4)) else (if 0 < (l0.length : Int) then (aneroidref17_Mean.l0 k l0 (rd l0 0) 0) else (none))
set_option maxHeartbeats 8000000 in
set_option maxRecDepth 100000 in
theorem aneroidref17_Mean.calls (k : Nat) (A0 : Option Addr) (c0 : Nat) (l0 : List Int) (r1 : Int) (r2 : Int) (w : World) (hr0 : Kd.C (Kd.int .i64) w A0 l0.length l0) (hc0 : l0.length ≤ c0) (h : aneroidref17_Mean.f k l0 = some (r1, r2)) :
  Calls Tryz.prog 11 #[.slice A0 l0.length c0] w fun e w' => e = .returned (.tuple #[r1, r2]) ∧ Drawn0 w w' := by
 have HR0 := am hr0
 have HC0 := am hc0
 clear hr0 hc0
 have H : (if (l0.length : Int) = 0 then (some (0, 4)) else (if 0 < (l0.length : Int) then (aneroidref17_Mean.l0 k l0 (rd l0 0) 0) else (none))) = some (r1, r2) := h
 clear h
 by_cases c2 : (l0.length : Int) = 0
 ·
  rw [if_pos c2] at H
  have c2b0 : ((l0.length : Int) == 0) = true := beq_iff_eq.mpr c2
  have c2b1 : ((l0.length : Int) != 0) = false := bne_eq_false_iff_eq.mpr c2
  clear c2
  simp only [Option.some.injEq, Prod.mk.injEq] at H
  obtain ⟨rfl, rfl⟩ := H
  go_enter Tryz.func11, Tryz.ntmps11
  go_wp2
  go_ret2
  exact f_0
 rw [if_neg c2] at H
 have c2b0 : ((l0.length : Int) == 0) = false := beq_eq_false_iff_ne.mpr c2
 have c2b1 : ((l0.length : Int) != 0) = true := bne_iff_ne.mpr c2
 have c2b2 : ¬ (l0 = []) := fun h_ => c2 (by rw [h_]; rfl)
 by_cases c3 : 0 < (l0.length : Int)
 ·
  rw [if_pos c3] at H
  have c3b0 : decide (0 < (l0.length : Int)) = true := decide_eq_true c3
  have c3b1 : decide (0 < l0.length) = true := decide_eq_true (by omega)
  clear c3
  have H' := am H
  clear H
  have p108 : 0 ≤ (0 : Int) := (by omega)
  have q108 : 0 < (l0.length : Int) := of_decide_eq_true (by first | (with_reducible assumption) | assumption)
  obtain ⟨ad108, e108, hx108_0⟩ := Kd.at_int HR0.out 0 p108 q108
  cases e108
  have qi108 : (0 < l0.length) = True := eq_true (by omega)
  (try rw [show ((0 : Int)).toNat = 0 from rfl] at hx108_0)
  (try rw [Addr.add_zero'] at hx108_0)
  replace p108 := eq_true p108
  replace q108 := eq_true q108
  go_enter Tryz.func11, Tryz.ntmps11
  go_wp2
  go_loopg [4, 5] k (fun kq v4 v5 w' => ∃ (x4_1 : Int) (x5_1 : Int), v4 = .int .i64 x4_1 ∧ v5 = .int .i64 x5_1 ∧ Aside0 (aneroidref17_Mean.l0 kq l0 x4_1 x5_1 = some (r1, r2)) ∧ Aside0 (kq ≤ k) ∧ Drawn0 w w')
  case atStart => exact ⟨(rd l0 0), (0), (by first | rfl | (simp; done) | (simp [*]; done)), (by first | rfl | (simp; done) | (simp [*]; done)), H', ⟨Nat.le_refl _⟩, by repeat (first | exact Drawn0.refl _ | apply Drawn0.step)⟩
  case round =>
   clear H'
   try clear c1
   try clear p1
   try clear q1
   try clear hx1
   try clear qi1
   try clear c2
   try clear c2b0
   try clear c2b1
   try clear c2b2
   try clear p2
   try clear c3
   try clear c3b0
   try clear c3b1
   try clear hx108_0
   try clear p108
   try clear q108
   obtain ⟨x4_1, x5_1, rfl, rfl, HA, HK1, ⟨m1, rfl⟩⟩ := hrel
   cases gk with
   | zero => exact absurd HA.out (by simp [aneroidref17_Mean.l0])
   | succ k1 =>
    have H := HA.out
    clear HA
    simp only [aneroidref17_Mean.l0] at H
    by_cases c4 : x5_1 < (l0.length : Int)
    ·
     rw [if_pos c4] at H
     have c4b0 : decide (x5_1 < (l0.length : Int)) = true := decide_eq_true c4
     clear c4
     by_cases c5 : 0 ≤ x5_1
     ·
      rw [if_pos c5] at H
      have c5b0 : decide (0 ≤ x5_1) = true := decide_eq_true c5
      clear c5
      replace H := Option.bind_eq_some_iff.mp H
      obtain ⟨t110, A60, H⟩ := H
      replace H : (if t110 = true then (if (rd l0 x5_1) < x4_1 then (aneroidref17_Mean.l0 k1 l0 (rd l0 x5_1) (wrap64 (x5_1 + 1))) else (aneroidref17_Mean.l0 k1 l0 x4_1 (wrap64 (x5_1 + 1)))) else (some (0, 2))) = some (r1, r2) := H
      have A6 := am A60
      clear A60
      by_cases c7 : t110 = true
      ·
       subst c7
       have H1 : (if (rd l0 x5_1) < x4_1 then (aneroidref17_Mean.l0 k1 l0 (rd l0 x5_1) (wrap64 (x5_1 + 1))) else (aneroidref17_Mean.l0 k1 l0 x4_1 (wrap64 (x5_1 + 1)))) = some (r1, r2) := by rw [if_pos rfl] at H; exact H
       clear H
       have H := H1
       clear H1
       by_cases c8 : (rd l0 x5_1) < x4_1
       ·
        rw [if_pos c8] at H
        have c8b0 : decide ((rd l0 x5_1) < x4_1) = true := decide_eq_true c8
        clear c8
        have H' := am H
        clear H
        have p109 : 0 ≤ (x5_1 : Int) := of_decide_eq_true (by first | (with_reducible assumption) | assumption)
        have q109 : x5_1 < (l0.length : Int) := of_decide_eq_true (by first | (with_reducible assumption) | assumption)
        obtain ⟨ad109, e109, hx109_0⟩ := Kd.at_int HR0.out x5_1 p109 q109
        obtain rfl : ad108 = ad109 := (by injection e109)
        replace p109 := eq_true p109
        replace q109 := eq_true q109
        go_wp2_with (first | ((with_reducible refine gate_callee (f := 8) rfl ?_); refine g_L 25 Tryz.func8 #[.int .i64 (rd l0 x5_1)] ?_; (with_reducible refine (aneroidref06_Good.calls (rd l0 x5_1) true _ A6.out).mono ?_); rintro e w' ⟨rfl, ⟨nd, rfl⟩⟩; refine ⟨_, rfl, ?_⟩; have p111 : 0 ≤ (x5_1 : Int) := of_decide_eq_true (by first | (with_reducible assumption) | assumption); have q111 : x5_1 < (l0.length : Int) := of_decide_eq_true (by first | (with_reducible assumption) | assumption); obtain ⟨ad111, e111, hx111_0⟩ := Kd.at_int HR0.out x5_1 p111 q111; obtain rfl : ad108 = ad111 := (by injection e111); replace p111 := eq_true p111; replace q111 := eq_true q111; have p112 : 0 ≤ (x5_1 : Int) := of_decide_eq_true (by first | (with_reducible assumption) | assumption); have q112 : x5_1 < (l0.length : Int) := of_decide_eq_true (by first | (with_reducible assumption) | assumption); obtain ⟨ad112, e112, hx112_0⟩ := Kd.at_int HR0.out x5_1 p112 q112; obtain rfl : ad108 = ad112 := (by injection e112); replace p112 := eq_true p112; replace q112 := eq_true q112))
        go_roundg k1
        case measure => have := HK1.out; omega
        case rel => exact ⟨(rd l0 x5_1), (wrap64 (x5_1 + 1)), (by first | rfl | (simp; done) | (simp [*]; done)), (by first | rfl | (simp; done) | (simp [*]; done)), H', ⟨by have := HK1.out; omega⟩, by repeat (first | exact Drawn0.refl _ | apply Drawn0.step)⟩
       rw [if_neg c8] at H
       have c8b0 : decide ((rd l0 x5_1) < x4_1) = false := decide_eq_false c8
       clear c8
       have H' := am H
       clear H
       have p109 : 0 ≤ (x5_1 : Int) := of_decide_eq_true (by first | (with_reducible assumption) | assumption)
       have q109 : x5_1 < (l0.length : Int) := of_decide_eq_true (by first | (with_reducible assumption) | assumption)
       obtain ⟨ad109, e109, hx109_0⟩ := Kd.at_int HR0.out x5_1 p109 q109
       obtain rfl : ad108 = ad109 := (by injection e109)
       replace p109 := eq_true p109
       replace q109 := eq_true q109
       go_wp2_with (first | ((with_reducible refine gate_callee (f := 8) rfl ?_); refine g_L 25 Tryz.func8 #[.int .i64 (rd l0 x5_1)] ?_; (with_reducible refine (aneroidref06_Good.calls (rd l0 x5_1) true _ A6.out).mono ?_); rintro e w' ⟨rfl, ⟨nd, rfl⟩⟩; refine ⟨_, rfl, ?_⟩; have p111 : 0 ≤ (x5_1 : Int) := of_decide_eq_true (by first | (with_reducible assumption) | assumption); have q111 : x5_1 < (l0.length : Int) := of_decide_eq_true (by first | (with_reducible assumption) | assumption); obtain ⟨ad111, e111, hx111_0⟩ := Kd.at_int HR0.out x5_1 p111 q111; obtain rfl : ad108 = ad111 := (by injection e111); replace p111 := eq_true p111; replace q111 := eq_true q111))
       go_roundg k1
       case measure => have := HK1.out; omega
       case rel => exact ⟨(x4_1), (wrap64 (x5_1 + 1)), (by first | rfl | (simp; done) | (simp [*]; done)), (by first | rfl | (simp; done) | (simp [*]; done)), H', ⟨by have := HK1.out; omega⟩, by repeat (first | exact Drawn0.refl _ | apply Drawn0.step)⟩
      replace c7 := Bool.eq_false_iff.mpr c7
      subst c7
      have H1 : (some (0, 2)) = some (r1, r2) := by rw [if_neg (show ¬ (false = true) by decide)] at H; exact H
      clear H
      have H := H1
      clear H1
      simp only [Option.some.injEq, Prod.mk.injEq] at H
      obtain ⟨rfl, rfl⟩ := H
      have p109 : 0 ≤ (x5_1 : Int) := of_decide_eq_true (by first | (with_reducible assumption) | assumption)
      have q109 : x5_1 < (l0.length : Int) := of_decide_eq_true (by first | (with_reducible assumption) | assumption)
      obtain ⟨ad109, e109, hx109_0⟩ := Kd.at_int HR0.out x5_1 p109 q109
      obtain rfl : ad108 = ad109 := (by injection e109)
      replace p109 := eq_true p109
      replace q109 := eq_true q109
      go_wp2_with (first | ((with_reducible refine gate_callee (f := 8) rfl ?_); refine g_L 25 Tryz.func8 #[.int .i64 (rd l0 x5_1)] ?_; (with_reducible refine (aneroidref06_Good.calls (rd l0 x5_1) false _ A6.out).mono ?_); rintro e w' ⟨rfl, ⟨nd, rfl⟩⟩; refine ⟨_, rfl, ?_⟩))
      go_ret2
      exact f_0
     rw [if_neg c5] at H
     exact absurd H (by simp)
    rw [if_neg c4] at H
    have c4b0 : decide (x5_1 < (l0.length : Int)) = false := decide_eq_false c4
    clear c4
    have H' := am H
    clear H
    go_wp2
    go_loopg [6, 7] k1 (fun kq v6 v7 w' => ∃ (x6_2 : Int) (x7_2 : Int), v6 = .int .i64 x6_2 ∧ v7 = .int .i64 x7_2 ∧ Aside0 (aneroidref17_Mean.l1 kq l0 x4_1 x6_2 x7_2 = some (r1, r2)) ∧ Aside0 (kq ≤ k1) ∧ Drawn0 w w')
    case atStart => exact ⟨(0), (0), (by first | rfl | (simp; done) | (simp [*]; done)), (by first | rfl | (simp; done) | (simp [*]; done)), H', ⟨Nat.le_refl _⟩, by repeat (first | exact Drawn0.refl _ | apply Drawn0.step)⟩
    case round =>
     clear H'
     try clear c1
     try clear p1
     try clear q1
     try clear hx1
     try clear qi1
     try clear c2
     try clear c2b0
     try clear c2b1
     try clear c2b2
     try clear p2
     try clear c3
     try clear c3b0
     try clear c3b1
     try clear c4
     try clear c4b0
     try clear c5
     try clear c5b0
     try clear p6
     try clear c7
     try clear c8
     try clear c8b0
     try clear hx108_0
     try clear hx109_0
     try clear hx111_0
     try clear hx112_0
     try clear p1
     try clear p108
     try clear p109
     try clear p111
     try clear p112
     try clear p2
     try clear q1
     try clear q108
     try clear q109
     try clear q111
     try clear q112
     obtain ⟨x6_2, x7_2, rfl, rfl, HA, HK2, ⟨m2, rfl⟩⟩ := hrel
     cases gk with
     | zero => exact absurd HA.out (by simp [aneroidref17_Mean.l1])
     | succ k2 =>
      have H := HA.out
      clear HA
      simp only [aneroidref17_Mean.l1] at H
      by_cases c9 : x7_2 < (l0.length : Int)
      ·
       rw [if_pos c9] at H
       have c9b0 : decide (x7_2 < (l0.length : Int)) = true := decide_eq_true c9
       clear c9
       by_cases c10 : 0 ≤ x7_2
       ·
        rw [if_pos c10] at H
        have c10b0 : decide (0 ≤ x7_2) = true := decide_eq_true c10
        clear c10
        have H' := am H
        clear H
        have p113 : 0 ≤ (x7_2 : Int) := of_decide_eq_true (by first | (with_reducible assumption) | assumption)
        have q113 : x7_2 < (l0.length : Int) := of_decide_eq_true (by first | (with_reducible assumption) | assumption)
        obtain ⟨ad113, e113, hx113_0⟩ := Kd.at_int HR0.out x7_2 p113 q113
        obtain rfl : ad108 = ad113 := (by injection e113)
        replace p113 := eq_true p113
        replace q113 := eq_true q113
        go_wp2
        go_roundg k2
        case measure => have := HK1.out; have := HK2.out; omega
        case rel => exact ⟨(wrap64 ((wrap64 (x6_2 + (rd l0 x7_2))) - x4_1)), (wrap64 (x7_2 + 1)), (by first | rfl | (simp; done) | (simp [*]; done)), (by first | rfl | (simp; done) | (simp [*]; done)), H', ⟨by have := HK1.out; have := HK2.out; omega⟩, by repeat (first | exact Drawn0.refl _ | apply Drawn0.step)⟩
       rw [if_neg c10] at H
       exact absurd H (by simp)
      rw [if_neg c9] at H
      have c9b0 : decide (x7_2 < (l0.length : Int)) = false := decide_eq_false c9
      clear c9
      have H' := am H
      clear H
      go_wp2
      go_loopg [6, 8] k2 (fun kq v6 v8 w' => ∃ (x6_3 : Int) (x8_3 : Int), v6 = .int .i64 x6_3 ∧ v8 = .int .i64 x8_3 ∧ Aside0 (aneroidref17_Mean.l2 kq l0 x6_3 x8_3 = some (r1, r2)) ∧ Aside0 (kq ≤ k2) ∧ Drawn0 w w')
      case atStart => exact ⟨(x6_2), (x4_1), (by first | rfl | (simp; done) | (simp [*]; done)), (by first | rfl | (simp; done) | (simp [*]; done)), H', ⟨Nat.le_refl _⟩, by repeat (first | exact Drawn0.refl _ | apply Drawn0.step)⟩
      case round =>
       clear H'
       try clear c1
       try clear p1
       try clear q1
       try clear hx1
       try clear qi1
       try clear c2
       try clear c2b0
       try clear c2b1
       try clear c2b2
       try clear p2
       try clear c3
       try clear c3b0
       try clear c3b1
       try clear c4
       try clear c4b0
       try clear c5
       try clear c5b0
       try clear p6
       try clear c7
       try clear c8
       try clear c8b0
       try clear c9
       try clear c9b0
       try clear c10
       try clear c10b0
       try clear p10
       try clear q10
       try clear hx10
       try clear qi10
       try clear hx108_0
       try clear hx109_0
       try clear hx111_0
       try clear hx112_0
       try clear hx113_0
       try clear p1
       try clear p108
       try clear p109
       try clear p111
       try clear p112
       try clear p113
       try clear p2
       try clear p6
       try clear q1
       try clear q108
       try clear q109
       try clear q111
       try clear q112
       try clear q113
       obtain ⟨x6_3, x8_3, rfl, rfl, HA, HK3, ⟨m3, rfl⟩⟩ := hrel
       cases gk with
       | zero => exact absurd HA.out (by simp [aneroidref17_Mean.l2])
       | succ k3 =>
        have H := HA.out
        clear HA
        simp only [aneroidref17_Mean.l2] at H
        by_cases c11 : x6_3 ≥ (l0.length : Int)
        ·
         rw [if_pos c11] at H
         have c11b0 : decide ((l0.length : Int) ≤ x6_3) = true := decide_eq_true c11
         clear c11
         have H' := am H
         clear H
         go_wp2
         go_roundg k3
         case measure => have := HK1.out; have := HK2.out; have := HK3.out; omega
         case rel => exact ⟨(wrap64 (x6_3 - (l0.length : Int))), (wrap64 (x8_3 + 1)), (by first | rfl | (simp; done) | (simp [*]; done)), (by first | rfl | (simp; done) | (simp [*]; done)), H', ⟨by have := HK1.out; have := HK2.out; have := HK3.out; omega⟩, by repeat (first | exact Drawn0.refl _ | apply Drawn0.step)⟩
        rw [if_neg c11] at H
        have c11b0 : decide ((l0.length : Int) ≤ x6_3) = false := decide_eq_false c11
        clear c11
        simp only [Option.some.injEq, Prod.mk.injEq] at H
        obtain ⟨rfl, rfl⟩ := H
        go_wp2
        go_ret2
        exact f_0
 rw [if_neg c3] at H
 exact absurd H (by simp)
end Go.Proofs.YtpdahkgandaabaaGreatDoor.PDoc
namespace Go.Proofs.YtpdahkgandaabaaGreatDoor.Ch
open Go.RowKit Go.Proofs.YtpdahkgandaabaaGreatDoorW.PrintWords Go.Proofs.YtpdahkgandaabaaGreatDoorW.PrintLast Go.Proofs.YtpdahkgandaabaaGreatDoorW.PrintMore Go.Proofs.YtpdahkgandaabaaGreatDoor.PDoc Go.Proofs.YtpdahkgandaabaaGreatDoor.Al
set_option linter.unusedVariables false
set_option linter.unusedSimpArgs false
namespace Mo
theorem ref_good (c : Int) : aneroidref06_Good.f c = some (good c) := by
 unfold aneroidref06_Good.f good
 by_cases h1 : c > 90527
 ·
  rw [if_pos h1, decide_eq_true (show 90528 ≤ c by omega), Bool.true_and]
  congr 1
  by_cases h2 : c ≤ 430515
  ·
   rw [decide_eq_true h2, decide_eq_true (by omega)]
  rw [decide_eq_false h2, decide_eq_false (by omega)]
 rw [if_neg h1, decide_eq_false (show ¬ 90528 ≤ c by omega), Bool.false_and]
theorem ref_l2 (x0 : List Int) (n : Int) (hn : (x0.length : Int) = n) (hp : 0 < n) (d : Nat) : ∀ (k : Nat) (over c : Int), 0 ≤ over → over / n = (d : Int) → d < k → 0 ≤ c → c + d ≤ 1000000000000 → over ≤ 1000000000000 →
  aneroidref17_Mean.l2 k x0 over c = some (c + d, 0) := by
 induction d with
 | zero =>
  intro k over c h0 hd hk hc hb ho
  obtain ⟨k, rfl⟩ : ∃ m, k = m + 1 := ⟨k - 1, by omega⟩
  have hlt : over < n := by
   have := Int.lt_ediv_add_one_mul_self over hp
   rw [hd] at this
   simpa using this
  simp only [aneroidref17_Mean.l2]
  rw [if_neg (by omega)]
  simp
 | succ d ih =>
  intro k over c h0 hd hk hc hb ho
  obtain ⟨k, rfl⟩ : ∃ m, k = m + 1 := ⟨k - 1, by omega⟩
  have hge : n ≤ over := by
   rcases Int.lt_or_le over n with h | h
   ·
    rw [Int.ediv_eq_zero_of_lt h0 h] at hd
    omega
   exact h
  have hd' : (over - n) / n = (d : Int) := by
   have h := Int.sub_ediv_of_dvd over (Int.dvd_refl n)
   rw [h, Int.ediv_self (by omega), hd]
   omega
  simp only [aneroidref17_Mean.l2]
  rw [if_pos (by omega), hn, w64 (by omega) (by omega), w64 (by omega) (by omega), ih k (over - n) (c + 1) (by omega) hd' (by omega) (by omega) (by omega) (by omega)]
  congr 2
  omega
theorem ref_l1 (x0 : List Int) (least : Int) (hl : x0.length ≤ 1000000) (hlo : 90528 ≤ least) (hx0 : 0 < x0.length) : ∀ (rest pre : List Int) (over : Int) (k : Nat), x0 = pre ++ rest → (∀ x ∈ rest, least ≤ x ∧ x ≤ 430515) → rest.length + 430516 < k → 0 ≤ over → over ≤ 430515 * (pre.length : Int) →
  over + (rest.sum - least * (rest.length : Int)) ≤ 430515 * (x0.length : Int) → least ≤ 430515 →
  aneroidref17_Mean.l1 k x0 least over (pre.length : Int) = some (least + (over + (rest.sum - least * (rest.length : Int))) / (x0.length : Int), 0) := by
 intro rest
 induction rest with
 | nil =>
  intro pre over k hx hall hk h0 h1 hb hl4
  obtain ⟨k, rfl⟩ : ∃ m, k = m + 1 := ⟨k - 1, by omega⟩
  have hlen : x0.length = pre.length := by rw [hx]; simp
  simp only [aneroidref17_Mean.l1]
  rw [if_neg (by omega)]
  have hq0 : 0 ≤ over / (x0.length : Int) := Int.ediv_nonneg h0 (by omega)
  have hq1 : over / (x0.length : Int) ≤ 430515 := by
   have h := Int.ediv_le_ediv (c := (x0.length : Int)) (by omega) (show over ≤ 430515 * (x0.length : Int) by omega)
   rwa [Int.mul_ediv_cancel _ (by omega)] at h
  have h := ref_l2 x0 x0.length rfl (by omega) (over / (x0.length : Int)).toNat k over least h0 (by omega) (by simp only [List.length_nil] at hk; omega) (by omega) (by omega) (by omega)
  rw [h]
  simp only [List.sum_nil, List.length_nil]
  congr 2
  rw [show over + (0 - least * ((0 : Nat) : Int)) = over from by simp]
  omega
 | cons x t ih =>
  intro pre over k hx hall hk h0 h1 hb hl4
  obtain ⟨k, rfl⟩ : ∃ m, k = m + 1 := ⟨k - 1, by omega⟩
  have hlen : x0.length = pre.length + (t.length + 1) := by rw [hx]; simp
  have hrd : rd x0 (pre.length : Int) = x := by rw [hx]; exact rd_mid _ _ _
  have hxb := hall x (by simp)
  simp only [List.sum_cons, List.length_cons] at hb hk ⊢
  have hmul : least * ((t.length + 1 : Nat) : Int) = least * (t.length : Int) + least := by
   rw [show ((t.length + 1 : Nat) : Int) = (t.length : Int) + 1 from by omega, Int.mul_add, Int.mul_one]
  simp only [aneroidref17_Mean.l1]
  rw [if_pos (by omega), if_pos (by omega), hrd, w64 (x := over + x) (by omega) (by omega), w64 (x := over + x - least) (by omega) (by omega), w64 (x := (pre.length : Int) + 1) (by omega) (by omega)]
  have hi := ih (pre ++ [x]) (over + x - least) k (by rw [hx]; simp) (fun y hy => hall y (by simp [hy])) (by omega) (by omega) (by simp only [List.length_append, List.length_cons, List.length_nil]; omega) (by rw [hmul] at hb; omega) hl4
  simp only [List.length_append, List.length_cons, List.length_nil, Nat.zero_add, Int.natCast_add, Int.cast_ofNat_Int] at hi
  rw [hi, hmul, show over + x - least + (t.sum - least * (t.length : Int)) = over + (x + t.sum - (least * (t.length : Int) + least)) from by omega]
theorem ref_l0 (x0 : List Int) (hl : x0.length ≤ 1000000) (hx0 : 0 < x0.length) : ∀ (rest pre : List Int) (least : Int) (k : Nat), x0 = pre ++ rest → rest.length + x0.length + 430520 < k → (∀ x ∈ pre, least ≤ x) → (pre = [] → rest ≠ []) →
  (pre ≠ [] → 90528 ≤ least ∧ least ≤ 430515) → allG pre = true → (pre = [] → ∃ t, rest = least :: t) →
  aneroidref17_Mean.l0 k x0 least (pre.length : Int) = some (if allG rest then (x0.sum / (x0.length : Int), 0) else (0, 2)) := by
 intro rest
 induction rest with
 | nil =>
  intro pre least k hx hk hle hne hlo hgp _
  obtain ⟨k, rfl⟩ : ∃ m, k = m + 1 := ⟨k - 1, by omega⟩
  have hlen : x0.length = pre.length := by rw [hx]; simp
  have hpne : pre ≠ [] := fun h => hne h rfl
  have hx' : x0 = pre := by rw [hx]; simp
  have hlo' := hlo hpne
  have hg0 : allG x0 = true := by rw [hx']; exact hgp
  have hsb := sum_bounds x0 hg0
  simp only [aneroidref17_Mean.l0]
  rw [if_neg (by omega)]
  have hmono : ∀ l : List Int, (∀ x ∈ l, least ≤ x) → least * (l.length : Int) ≤ l.sum := by
   intro l
   induction l with
   | nil => intro _; simp
   | cons y t ih =>
    intro h
    have h1 := h y (by simp)
    have h2 := ih (fun z hz => h z (by simp [hz]))
    simp only [List.sum_cons, List.length_cons]
    rw [show ((t.length + 1 : Nat) : Int) = (t.length : Int) + 1 from by omega, Int.mul_add, Int.mul_one]
    omega
  have hm := hmono x0 (by rw [hx']; exact hle)
  have hnn : 0 ≤ least * (x0.length : Int) := Int.mul_nonneg (by omega) (by omega)
  have h := ref_l1 x0 least hl hlo'.1 hx0 x0 [] 0 k rfl (fun x hx2 => ⟨by rw [hx'] at hx2; exact hle x hx2, by
   have := List.all_eq_true.1 hg0 x hx2
   exact (good_ok this).2⟩) (by simp only [List.length_nil] at hk; omega) (by omega) (by simp) (by omega) hlo'.2
  simp only [List.length_nil, Int.cast_ofNat_Int, Int.zero_add] at h
  rw [h]
  have e : least + (x0.sum - least * (x0.length : Int)) / (x0.length : Int) = x0.sum / (x0.length : Int) := by
   rw [Int.sub_ediv_of_dvd _ (Int.dvd_mul_left _ _), Int.mul_ediv_cancel _ (by omega)]
   omega
  rw [e]
  simp [allG]
 | cons x t ih =>
  intro pre least k hx hk hle hne hlo hgp hfirst
  obtain ⟨k, rfl⟩ : ∃ m, k = m + 1 := ⟨k - 1, by omega⟩
  have hlen : x0.length = pre.length + (t.length + 1) := by rw [hx]; simp
  have hrd : rd x0 (pre.length : Int) = x := by rw [hx]; exact rd_mid _ _ _
  simp only [List.length_cons] at hk
  simp only [aneroidref17_Mean.l0]
  rw [if_pos (by omega), if_pos (by omega), hrd, ref_good]
  simp only [Option.bind_some]
  by_cases hg : good x = true
  ·
   have hb := good_ok hg
   rw [if_pos hg]
   have hgp' : allG (pre ++ [x]) = true := by
    simp only [allG, List.all_append, List.all_cons, List.all_nil, Bool.and_true, hg]
    exact hgp
   have hgoal : allG (x :: t) = allG t := by simp only [allG, List.all_cons, hg, Bool.true_and]
   rw [hgoal]
   by_cases hlt : x < least
   ·
    rw [if_pos hlt, w64 (by omega) (by omega)]
    have hi := ih (pre ++ [x]) x k (by rw [hx]; simp) (by omega) (by
     intro y hy
     rcases List.mem_append.1 hy with hy | hy
     ·
      have := hle y hy; omega
     simp at hy; omega) (by simp) (fun _ => hb) hgp' (by simp)
    simp only [List.length_append, List.length_cons, List.length_nil, Nat.zero_add, Int.natCast_add, Int.cast_ofNat_Int] at hi
    exact hi
   rw [if_neg hlt, w64 (by omega) (by omega)]
   have hi := ih (pre ++ [x]) least k (by rw [hx]; simp) (by omega) (by
    intro y hy
    rcases List.mem_append.1 hy with hy | hy
    ·
     exact hle y hy
    simp at hy; omega) (by simp) (fun _ => by
    by_cases hp : pre = []
    ·
     obtain ⟨t', ht'⟩ := hfirst hp
     injection ht' with h1 h2
     subst h1
     exact hb
    exact hlo hp) hgp' (by simp)
   simp only [List.length_append, List.length_cons, List.length_nil, Nat.zero_add, Int.natCast_add, Int.cast_ofNat_Int] at hi
   exact hi
  rw [if_neg hg]
  simp [allG, hg]
theorem ref_tells (l : List Int) (hl : l.length ≤ 1000000) (k : Nat) (hk : l.length + l.length + 430520 < k) :
  aneroidref17_Mean.f k l = some (if l = [] then (0, 4) else if allG l then (l.sum / (l.length : Int), 0) else (0, 2)) := by
 unfold aneroidref17_Mean.f
 cases l with
 | nil => simp
 | cons x t =>
  rw [if_neg (by simp only [List.length_cons]; omega), if_pos (by simp only [List.length_cons]; omega), if_neg (by simp)]
  have h := ref_l0 (x :: t) hl (by simp) (x :: t) [] x k rfl hk (by simp) (by simp) (by simp) (by simp [allG]) (fun _ => ⟨t, rfl⟩)
  simp only [List.length_nil, Int.cast_ofNat_Int] at h
  have hrd : rd (x :: t) 0 = x := rfl
  rw [hrd]
  exact h
end Mo
theorem refmean_any (w : World) (A : Option Addr) (cap : Nat) (l : List Int) (hr : Kd.C (Kd.int .i64) w A l.length l) (hc : l.length ≤ cap) (hl : l.length = 16) (hg : Mo.allG l = true) : Calls Tryz.prog 11 #[.slice A l.length cap] w fun e w' => e = .returned (.tuple #[.int .i64 (l.sum / 16), ()]) ∧ Below w.heap.size w w' := by
 have h := Mo.ref_tells l (by omega) 500000 (by omega)
 have hn : l ≠ [] := fun e => by rw [e] at hl; simp at hl
 rw [if_neg hn, if_pos hg, hl] at h
 refine (aneroidref17_Mean.calls _ A cap l _ _ w hr hc h).mono ?_
 rintro e w' ⟨he, hd⟩
 exact ⟨he, hd.below⟩
end Go.Proofs.YtpdahkgandaabaaGreatDoor.Ch
