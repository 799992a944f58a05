-- PRINTED BY print.sh 35421559b90ae4d0a3588c463048766b98c2df88dd9212a6774a882060cdf62d: not written by this session
import Derived.Test.YtoknlaknffpigaaPTapeToldx0
namespace Go.Proofs.Ytoknlaknffpigaa.PTapeTold
open Go.RowKit Go.Proofs.YtoknlaknffpigaaW.PrintWords Go.Proofs.YtoknlaknffpigaaW.PrintLast Go.Proofs.YtoknlaknffpigaaW.PrintMore
attribute [local go_sem] max2_int min2_int max_two min_two max_three min_three max_four min_four   -- for this text's walks alone
set_option linter.unusedVariables false
set_option linter.unusedSimpArgs false

/-! ### tape_Sum: function 42 -/
def tape_Sum.l0 : Nat → Int → List Int → Int → Int → Option (Int)
  | 0, _, _, _, _ => none
  | k + 1, x3, x6, x7, x8 => if x8 < x7 then (if 0 ≤ x8 then (if x8 < (x6.length : Int) then (tape_Sum.l0 k (IntKind.u64.wrap ((Go.bits .xor .u64 x3 (IntKind.u64.wrap (rd x6 x8))) * 1099511628211)) x6 x7 (wrap64 (x8 + 1))) else (none)) else (none)) else (some x3)
def tape_Sum.f (k : Nat) (l0 : List Int) : Option (Int) := tape_Sum.l0 k 14695981039346656037 l0 (l0.length : Int) 0
theorem tape_Sum.mono_l : ∀ k, (∀ y0 y1 y2 y3, LeO (tape_Sum.l0 k y0 y1 y2 y3) (tape_Sum.l0 (k + 1) y0 y1 y2 y3))
  | 0 => fun _ _ _ _ r h => by simp [tape_Sum.l0] at h
  | k + 1 => by
    have ih0 := tape_Sum.mono_l k
    · intro y0 y1 y2 y3
      unfold tape_Sum.l0
      repeat' first
      | (with_reducible exact ih0 _ _ _ _)
      | (with_reducible exact LeO.refl _)
      | (with_reducible exact LeO.none _)
      | (with_reducible refine LeO.ite ?_ ?_)
      | (with_reducible refine LeO.bind ?_ (fun _ => ?_))
      | exact ih0 _ _ _ _
      | exact LeO.none _
      | refine LeO.ite ?_ ?_
      | refine LeO.bind ?_ (fun _ => ?_)
theorem tape_Sum.mono : ∀ a0 k, LeO (tape_Sum.f k a0) (tape_Sum.f (k + 1) a0) := by
  intro a0 k
  have ih0 := tape_Sum.mono_l k
  unfold tape_Sum.f
  repeat' first
      | (with_reducible exact ih0 _ _ _ _)
      | (with_reducible exact LeO.refl _)
      | (with_reducible exact LeO.none _)
      | (with_reducible refine LeO.ite ?_ ?_)
      | (with_reducible refine LeO.bind ?_ (fun _ => ?_))
      | exact ih0 _ _ _ _
      | exact LeO.none _
      | refine LeO.ite ?_ ?_
      | refine LeO.bind ?_ (fun _ => ?_)
set_option maxHeartbeats 8000000 in
set_option maxRecDepth 100000 in
theorem tape_Sum.calls (k : Nat) (A0 : Option Addr) (c0 : Nat) (l0 : List Int) (r : Int) (w : World) (hr0 : Kd.C (Kd.int .u8) w A0 l0.length l0) (hc0 : l0.length ≤ c0) (h : tape_Sum.f k l0 = some r) :
    Calls Try.prog 42 #[.slice A0 l0.length c0] w fun e w' => e = .returned (.int .u64 r) ∧ Drawn0 w w' := by
  have HR0 := Aside0.mk hr0
  have HC0 := Aside0.mk hc0
  clear hr0 hc0
  have H : (tape_Sum.l0 k 14695981039346656037 l0 (l0.length : Int) 0) = some r := h
  clear h
  have H' := Aside0.mk H
  clear H
  go_enter Try.func42, Try.ntmps42
  go_wp2
  go_loopg [3, 8] k (fun kq v3 v8 w' => ∃ (x3_1 : Int) (x8_1 : Int), v3 = .int .u64 x3_1 ∧ v8 = .int .i64 x8_1 ∧ Aside0 (tape_Sum.l0 kq x3_1 l0 (l0.length : Int) x8_1 = some r) ∧ Aside0 (kq ≤ k) ∧ Drawn0 w w')
  case atStart => exact ⟨(14695981039346656037), (0), (by first | rfl | (simp; done) | (simp [*]; done)), (by first | rfl | (simp; done) | (simp [*]; done)), H', ⟨Nat.le_refl _⟩, by repeat (first | exact Drawn0.refl _ | apply Drawn0.step)⟩
  case round =>
    clear H'
    obtain ⟨x3_1, x8_1, rfl, rfl, HA, HK1, ⟨m1, rfl⟩⟩ := hrel
    cases gk with
    | zero => exact absurd HA.out (by simp [tape_Sum.l0])
    | succ k1 =>
      have H := HA.out
      clear HA
      simp only [tape_Sum.l0] at H
      by_cases c2 : x8_1 < (l0.length : Int)
      · rw [if_pos c2] at H
        have c2b0 : decide (x8_1 < (l0.length : Int)) = true := decide_eq_true c2
        clear c2
        by_cases c3 : 0 ≤ x8_1
        · rw [if_pos c3] at H
          have c3b0 : decide (0 ≤ x8_1) = true := decide_eq_true c3
          clear c3
          by_cases c4 : x8_1 < (l0.length : Int)
          · rw [if_pos c4] at H
            have c4b0 : decide (x8_1 < (l0.length : Int)) = true := decide_eq_true c4
            clear c4
            have H' := Aside0.mk H
            clear H
            have p171 : 0 ≤ (x8_1 : Int) := of_decide_eq_true (by first | (with_reducible assumption) | assumption)
            have q171 : x8_1 < (l0.length : Int) := of_decide_eq_true (by first | (with_reducible assumption) | assumption)
            obtain ⟨ad171, e171, hx171_0⟩ := Kd.at_int HR0.out x8_1 p171 q171
            cases e171
            replace p171 := eq_true p171
            replace q171 := eq_true q171
            go_wp2
            go_roundg k1
            case measure => have := HK1.out; omega
            case rel => exact ⟨(IntKind.u64.wrap ((Go.bits .xor .u64 x3_1 (IntKind.u64.wrap (rd l0 x8_1))) * 1099511628211)), (wrap64 (x8_1 + 1)), (by first | rfl | (simp; done) | (simp [*]; done)), (by first | rfl | (simp; done) | (simp [*]; done)), H', ⟨by have := HK1.out; omega⟩, by repeat (first | exact Drawn0.refl _ | apply Drawn0.step)⟩
          · rw [if_neg c4] at H
            exact absurd H (by simp)
        · rw [if_neg c3] at H
          exact absurd H (by simp)
      · rw [if_neg c2] at H
        have c2b0 : decide (x8_1 < (l0.length : Int)) = false := decide_eq_false c2
        clear c2
        obtain rfl := Option.some.inj H
        go_wp2
        go_ret
        exact ⟨by first | rfl | (simp; done) | (simp [*]; done), by repeat (first | exact Drawn0.refl _ | apply Drawn0.step)⟩

/-! ### aneroidref21_Sum: function 43 -/
mutual
def aneroidref21_Sum.l0 : Nat → ByteArray → Int → Int → Option (Int)
  | 0, _, _, _ => none
  | k + 1, x0, x3, x4 => if x4 < (x0.size : Int) then (if 0 ≤ x4 then (aneroidref21_Sum.l1 k x0 x3 x4 (Int.tmod x3 256) (IntKind.u64.wrap (bt x0 x4)) 0 1 0) else (none)) else (some x3)
def aneroidref21_Sum.l1 : Nat → ByteArray → Int → Int → Int → Int → Int → Int → Int → Option (Int)
  | 0, _, _, _, _, _, _, _, _ => none
  | k + 1, x0, x3, x4, x5, x6, x7, x8, x9 => if x9 < 8 then (if x8 = 0 then (none) else (if (Int.tmod (IntKind.u64.wrap (Int.tdiv x5 x8)) 2) = (Int.tmod (IntKind.u64.wrap (Int.tdiv x6 x8)) 2) then (aneroidref21_Sum.l1 k x0 x3 x4 x5 x6 x7 (IntKind.u64.wrap (2 * x8)) (wrap64 (x9 + 1))) else (aneroidref21_Sum.l1 k x0 x3 x4 x5 x6 (IntKind.u64.wrap (x7 + x8)) (IntKind.u64.wrap (2 * x8)) (wrap64 (x9 + 1))))) else (aneroidref21_Sum.l0 k x0 (IntKind.u64.wrap ((IntKind.u64.wrap ((IntKind.u64.wrap (x3 - x5)) + x7)) * 1099511628211)) (wrap64 (x4 + 1)))
end
def aneroidref21_Sum.f (k : Nat) (a0 : ByteArray) : Option (Int) := aneroidref21_Sum.l0 k a0 14695981039346656037 0
theorem aneroidref21_Sum.mono_l : ∀ k, (∀ y0 y1 y2, LeO (aneroidref21_Sum.l0 k y0 y1 y2) (aneroidref21_Sum.l0 (k + 1) y0 y1 y2)) ∧ (∀ y0 y1 y2 y3 y4 y5 y6 y7, LeO (aneroidref21_Sum.l1 k y0 y1 y2 y3 y4 y5 y6 y7) (aneroidref21_Sum.l1 (k + 1) y0 y1 y2 y3 y4 y5 y6 y7))
  | 0 => ⟨fun _ _ _ r h => by simp [aneroidref21_Sum.l0] at h, fun _ _ _ _ _ _ _ _ r h => by simp [aneroidref21_Sum.l1] at h⟩
  | k + 1 => by
    obtain ⟨ih0, ih1⟩ := aneroidref21_Sum.mono_l k
    refine ⟨?_, ?_⟩
    · intro y0 y1 y2
      unfold aneroidref21_Sum.l0
      repeat' first
      | (with_reducible exact ih0 _ _ _)
      | (with_reducible exact ih1 _ _ _ _ _ _ _ _)
      | (with_reducible exact LeO.refl _)
      | (with_reducible exact LeO.none _)
      | (with_reducible refine LeO.ite ?_ ?_)
      | (with_reducible refine LeO.bind ?_ (fun _ => ?_))
      | exact ih0 _ _ _
      | exact ih1 _ _ _ _ _ _ _ _
      | exact LeO.none _
      | refine LeO.ite ?_ ?_
      | refine LeO.bind ?_ (fun _ => ?_)
    · intro y0 y1 y2 y3 y4 y5 y6 y7
      unfold aneroidref21_Sum.l1
      repeat' first
      | (with_reducible exact ih0 _ _ _)
      | (with_reducible exact ih1 _ _ _ _ _ _ _ _)
      | (with_reducible exact LeO.refl _)
      | (with_reducible exact LeO.none _)
      | (with_reducible refine LeO.ite ?_ ?_)
      | (with_reducible refine LeO.bind ?_ (fun _ => ?_))
      | exact ih0 _ _ _
      | exact ih1 _ _ _ _ _ _ _ _
      | exact LeO.none _
      | refine LeO.ite ?_ ?_
      | refine LeO.bind ?_ (fun _ => ?_)
theorem aneroidref21_Sum.mono : ∀ a0 k, LeO (aneroidref21_Sum.f k a0) (aneroidref21_Sum.f (k + 1) a0) := by
  intro a0 k
  obtain ⟨ih0, ih1⟩ := aneroidref21_Sum.mono_l k
  unfold aneroidref21_Sum.f
  repeat' first
      | (with_reducible exact ih0 _ _ _)
      | (with_reducible exact ih1 _ _ _ _ _ _ _ _)
      | (with_reducible exact LeO.refl _)
      | (with_reducible exact LeO.none _)
      | (with_reducible refine LeO.ite ?_ ?_)
      | (with_reducible refine LeO.bind ?_ (fun _ => ?_))
      | exact ih0 _ _ _
      | exact ih1 _ _ _ _ _ _ _ _
      | exact LeO.none _
      | refine LeO.ite ?_ ?_
      | refine LeO.bind ?_ (fun _ => ?_)
set_option maxHeartbeats 8000000 in
set_option maxRecDepth 100000 in
theorem aneroidref21_Sum.calls (k : Nat) (a0 : ByteArray) (r : Int) (w : World) (h : aneroidref21_Sum.f k a0 = some r) :
    Calls Try.prog 43 #[.string a0] w fun e w' => e = .returned (.int .u64 r) ∧ Drawn0 w w' := by
  have H : (aneroidref21_Sum.l0 k a0 14695981039346656037 0) = some r := h
  clear h
  have H' := Aside0.mk H
  clear H
  go_enter Try.func43, Try.ntmps43
  go_wp2
  repeat (go_quiet (fail); try go_wp2)
  go_loopg [3, 4] k (fun kq v3 v4 w' => ∃ (x3_1 : Int) (x4_1 : Int), v3 = .int .u64 x3_1 ∧ v4 = .int .i64 x4_1 ∧ Aside0 (aneroidref21_Sum.l0 kq a0 x3_1 x4_1 = some r) ∧ Aside0 (kq ≤ k) ∧ Drawn0 w w')
  case atStart => exact ⟨(14695981039346656037), (0), (by first | rfl | (simp; done) | (simp [*]; done)), (by first | rfl | (simp; done) | (simp [*]; done)), H', ⟨Nat.le_refl _⟩, by repeat (first | exact Drawn0.refl _ | apply Drawn0.step)⟩
  case round =>
    clear H'
    obtain ⟨x3_1, x4_1, rfl, rfl, HA, HK1, ⟨m1, rfl⟩⟩ := hrel
    cases gk with
    | zero => exact absurd HA.out (by simp [aneroidref21_Sum.l0])
    | succ k1 =>
      have H := HA.out
      clear HA
      simp only [aneroidref21_Sum.l0] at H
      by_cases c2 : x4_1 < (a0.size : Int)
      · rw [if_pos c2] at H
        have c2b0 : decide (x4_1 < (a0.size : Int)) = true := decide_eq_true c2
        clear c2
        by_cases c3 : 0 ≤ x4_1
        · rw [if_pos c3] at H
          have c3b0 : decide (0 ≤ x4_1) = true := decide_eq_true c3
          clear c3
          have H' := Aside0.mk H
          clear H
          have p4 : 0 ≤ (x4_1 : Int) := of_decide_eq_true (by first | (with_reducible assumption) | assumption)
          have q4 : x4_1 < (a0.size : Int) := of_decide_eq_true (by first | (with_reducible assumption) | assumption)
          have hx4 := bt_at a0 x4_1
          replace p4 := eq_true p4
          replace q4 := eq_true q4
          go_wp2
          repeat (go_quiet (fail); try go_wp2)
          go_loopg [7, 8, 9] k1 (fun kq v7 v8 v9 w' => ∃ (x7_2 : Int) (x8_2 : Int) (x9_2 : Int), v7 = .int .u64 x7_2 ∧ v8 = .int .u64 x8_2 ∧ v9 = .int .i64 x9_2 ∧ Aside0 (aneroidref21_Sum.l1 kq a0 x3_1 x4_1 (Int.tmod x3_1 256) (IntKind.u64.wrap (bt a0 x4_1)) x7_2 x8_2 x9_2 = some r) ∧ Aside0 (kq ≤ k1) ∧ Drawn0 w w')
          case atStart => exact ⟨(0), (1), (0), (by first | rfl | (simp; done) | (simp [*]; done)), (by first | rfl | (simp; done) | (simp [*]; done)), (by first | rfl | (simp; done) | (simp [*]; done)), H', ⟨Nat.le_refl _⟩, by repeat (first | exact Drawn0.refl _ | apply Drawn0.step)⟩
          case round =>
            clear H'
            try clear c2
            try clear c2b0
            try clear p2
            try clear c3
            try clear c3b0
            try clear c4
            try clear p4
            try clear q4
            try clear hx4
            try clear p4
            try clear q4
            obtain ⟨x7_2, x8_2, x9_2, rfl, rfl, rfl, HA, HK2, ⟨m2, rfl⟩⟩ := hrel
            cases gk with
            | zero => exact absurd HA.out (by simp [aneroidref21_Sum.l1])
            | succ k2 =>
              have H := HA.out
              clear HA
              simp only [aneroidref21_Sum.l1] at H
              by_cases c5 : x9_2 < 8
              · rw [if_pos c5] at H
                have c5b0 : decide (x9_2 < 8) = true := decide_eq_true c5
                clear c5
                by_cases c6 : x8_2 = 0
                · rw [if_pos c6] at H
                  exact absurd H (by simp)
                · rw [if_neg c6] at H
                  have c6b0 : (x8_2 == 0) = false := beq_eq_false_iff_ne.mpr c6
                  have c6b1 : (x8_2 != 0) = true := bne_iff_ne.mpr c6
                  by_cases c7 : (Int.tmod (IntKind.u64.wrap (Int.tdiv (Int.tmod x3_1 256) x8_2)) 2) = (Int.tmod (IntKind.u64.wrap (Int.tdiv (IntKind.u64.wrap (bt a0 x4_1)) x8_2)) 2)
                  · rw [if_pos c7] at H
                    have c7b0 : ((Int.tmod (IntKind.u64.wrap (Int.tdiv (Int.tmod x3_1 256) x8_2)) 2) == (Int.tmod (IntKind.u64.wrap (Int.tdiv (IntKind.u64.wrap (bt a0 x4_1)) x8_2)) 2)) = true := beq_iff_eq.mpr c7
                    have c7b1 : ((Int.tmod (IntKind.u64.wrap (Int.tdiv (Int.tmod x3_1 256) x8_2)) 2) != (Int.tmod (IntKind.u64.wrap (Int.tdiv (IntKind.u64.wrap (bt a0 x4_1)) x8_2)) 2)) = false := bne_eq_false_iff_eq.mpr c7
                    clear c7
                    have H' := Aside0.mk H
                    clear H
                    go_wp2
                    repeat (go_quiet (fail); try go_wp2)
                    go_roundg k2
                    case measure => have := HK1.out; have := HK2.out; omega
                    case rel => exact ⟨(x7_2), (IntKind.u64.wrap (2 * x8_2)), (wrap64 (x9_2 + 1)), (by first | rfl | (simp; done) | (simp [*]; done)), (by first | rfl | (simp; done) | (simp [*]; done)), (by first | rfl | (simp; done) | (simp [*]; done)), H', ⟨by have := HK1.out; have := HK2.out; omega⟩, by repeat (first | exact Drawn0.refl _ | apply Drawn0.step)⟩
                  · rw [if_neg c7] at H
                    have c7b0 : ((Int.tmod (IntKind.u64.wrap (Int.tdiv (Int.tmod x3_1 256) x8_2)) 2) == (Int.tmod (IntKind.u64.wrap (Int.tdiv (IntKind.u64.wrap (bt a0 x4_1)) x8_2)) 2)) = false := beq_eq_false_iff_ne.mpr c7
                    have c7b1 : ((Int.tmod (IntKind.u64.wrap (Int.tdiv (Int.tmod x3_1 256) x8_2)) 2) != (Int.tmod (IntKind.u64.wrap (Int.tdiv (IntKind.u64.wrap (bt a0 x4_1)) x8_2)) 2)) = true := bne_iff_ne.mpr c7
                    have H' := Aside0.mk H
                    clear H
                    go_wp2
                    repeat (go_quiet (fail); try go_wp2)
                    go_roundg k2
                    case measure => have := HK1.out; have := HK2.out; omega
                    case rel => exact ⟨(IntKind.u64.wrap (x7_2 + x8_2)), (IntKind.u64.wrap (2 * x8_2)), (wrap64 (x9_2 + 1)), (by first | rfl | (simp; done) | (simp [*]; done)), (by first | rfl | (simp; done) | (simp [*]; done)), (by first | rfl | (simp; done) | (simp [*]; done)), H', ⟨by have := HK1.out; have := HK2.out; omega⟩, by repeat (first | exact Drawn0.refl _ | apply Drawn0.step)⟩
              · rw [if_neg c5] at H
                have c5b0 : decide (x9_2 < 8) = false := decide_eq_false c5
                clear c5
                have H' := Aside0.mk H
                clear H
                go_wp2
                repeat (go_quiet (fail); try go_wp2)
                go_roundg k2
                case measure => have := HK1.out; have := HK2.out; omega
                case rel => exact ⟨(IntKind.u64.wrap ((IntKind.u64.wrap ((IntKind.u64.wrap (x3_1 - (Int.tmod x3_1 256))) + x7_2)) * 1099511628211)), (wrap64 (x4_1 + 1)), (by first | rfl | (simp; done) | (simp [*]; done)), (by first | rfl | (simp; done) | (simp [*]; done)), H', ⟨by have := HK1.out; have := HK2.out; omega⟩, by repeat (first | exact Drawn0.refl _ | apply Drawn0.step)⟩
        · rw [if_neg c3] at H
          exact absurd H (by simp)
      · rw [if_neg c2] at H
        have c2b0 : decide (x4_1 < (a0.size : Int)) = false := decide_eq_false c2
        clear c2
        obtain rfl := Option.some.inj H
        go_wp2
        repeat (go_quiet (fail); try go_wp2)
        go_ret
        exact ⟨by first | rfl | (simp; done) | (simp [*]; done), by repeat (first | exact Drawn0.refl _ | apply Drawn0.step)⟩

-- NOT PRINTED: function 11 (aneroidlaw21_TapeTold)

end Go.Proofs.Ytoknlaknffpigaa.PTapeTold
