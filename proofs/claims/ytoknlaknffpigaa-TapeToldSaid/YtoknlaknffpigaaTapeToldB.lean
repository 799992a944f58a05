/- The document's bytes of what was told (layer 21): the walk of its Told; lines that print.sh wrote for this law. -/
import Derived.Test.YtoknlaknffpigaaPTapeToldx1
namespace Go.Proofs.Ytoknlaknffpigaa.PTapeTold
open Go.RowKit Go.Proofs.YtoknlaknffpigaaW.PrintWords Go.Proofs.YtoknlaknffpigaaW.PrintLast Go.Proofs.YtoknlaknffpigaaW.PrintMore
attribute [local go_sem] max2_int min2_int max_two min_two max_three min_three max_four min_four   -- for this text's walks alone
set_option linter.unusedVariables false
set_option linter.unusedSimpArgs false

def aneroidref21_bit.f (a0 : Int) (a1 : Bool) : Option (Int) := if a1 = true then (some a0) else (some 0)
set_option maxHeartbeats 8000000 in
set_option maxRecDepth 100000 in
theorem aneroidref21_bit.calls (a0 : Int) (a1 : Bool) (r : Int) (w : World) (h : aneroidref21_bit.f a0 a1 = some r) :
    Calls Try.prog 55 #[.int .u8 a0, .bool a1] w fun e w' => e = .returned (.int .u8 r) ∧ Drawn0 w w' := by
  have H : (if a1 = true then (some a0) else (some 0)) = some r := h
  clear h
  by_cases c3 : a1 = true
  · subst c3
    have H1 : (some a0) = some r := by rw [if_pos rfl] at H; exact H
    clear H
    have H := H1
    clear H1
    obtain rfl := Option.some.inj H
    go_enter Try.func55, Try.ntmps55
    go_wp2
    go_ret
    exact ⟨by first | rfl | (simp; done) | (simp [*]; done), by repeat (first | exact Drawn0.refl _ | apply Drawn0.step)⟩
  · replace c3 := Bool.eq_false_iff.mpr c3
    subst c3
    have H1 : (some 0) = some r := by rw [if_neg (show ¬ (false = true) by decide)] at H; exact H
    clear H
    have H := H1
    clear H1
    obtain rfl := Option.some.inj H
    go_enter Try.func55, Try.ntmps55
    go_wp2
    go_ret
    exact ⟨by first | rfl | (simp; done) | (simp [*]; done), by repeat (first | exact Drawn0.refl _ | apply Drawn0.step)⟩

/-! ### aneroidref21_number: function 56 -/
def aneroidref21_number.l0 : Nat → Int → ByteArray → Int → Option (ByteArray)
  | 0, _, _, _ => none
  | k + 1, x3, x4, x5 => if x5 < 8 then ((some (([(Int.tmod x3 256) % 256] : List Int) : List Int)).bind fun y155 => (if x4.size + (strOfNums y155).size ≤ 9223372036854775807 then (aneroidref21_number.l0 k (IntKind.u64.wrap (Int.tdiv x3 256)) (x4 ++ (strOfNums y155)) (wrap64 (x5 + 1))) else (none))) else (some x4)
def aneroidref21_number.f (k : Nat) (a0 : Int) : Option (ByteArray) := aneroidref21_number.l0 k (IntKind.u64.wrap (a0)) (⟨#[]⟩ : ByteArray) 0
theorem aneroidref21_number.mono_l : ∀ k, (∀ y0 y1 y2, LeO (aneroidref21_number.l0 k y0 y1 y2) (aneroidref21_number.l0 (k + 1) y0 y1 y2))
  | 0 => fun _ _ _ r h => by simp [aneroidref21_number.l0] at h
  | k + 1 => by
    have ih0 := aneroidref21_number.mono_l k
    · intro y0 y1 y2
      unfold aneroidref21_number.l0
      repeat' first
      | (with_reducible exact ih0 _ _ _)
      | (with_reducible exact LeO.refl _)
      | (with_reducible exact LeO.none _)
      | (with_reducible refine LeO.ite ?_ ?_)
      | (with_reducible refine LeO.bind ?_ (fun _ => ?_))
      | exact ih0 _ _ _
      | exact LeO.none _
      | refine LeO.ite ?_ ?_
      | refine LeO.bind ?_ (fun _ => ?_)
theorem aneroidref21_number.mono : ∀ a0 k, LeO (aneroidref21_number.f k a0) (aneroidref21_number.f (k + 1) a0) := by
  intro a0 k
  have ih0 := aneroidref21_number.mono_l k
  unfold aneroidref21_number.f
  repeat' first
      | (with_reducible exact ih0 _ _ _)
      | (with_reducible exact LeO.refl _)
      | (with_reducible exact LeO.none _)
      | (with_reducible refine LeO.ite ?_ ?_)
      | (with_reducible refine LeO.bind ?_ (fun _ => ?_))
      | exact ih0 _ _ _
      | exact LeO.none _
      | refine LeO.ite ?_ ?_
      | refine LeO.bind ?_ (fun _ => ?_)
set_option maxHeartbeats 8000000 in
set_option maxRecDepth 100000 in
theorem aneroidref21_number.calls (k : Nat) (a0 : Int) (r : ByteArray) (w : World) (h : aneroidref21_number.f k a0 = some r) :
    Calls Try.prog 56 #[.int .i64 a0] w fun e w' => e = .returned (.string r) ∧ Below w.heap.size w w' := by
  have HB := Aside0.mk (Below.refl w.heap.size w)
  have H : (aneroidref21_number.l0 k (IntKind.u64.wrap (a0)) (⟨#[]⟩ : ByteArray) 0) = some r := h
  clear h
  have H' := Aside0.mk H
  clear H
  go_enter Try.func56, Try.ntmps56
  go_wp2
  go_loopg [3, 4, 5] k (fun kq v3 v4 v5 w' => ∃ (x3_1 : Int) (x4_1 : ByteArray) (x5_1 : Int), v3 = .int .u64 x3_1 ∧ v4 = .string x4_1 ∧ v5 = .int .i64 x5_1 ∧ Aside0 (aneroidref21_number.l0 kq x3_1 x4_1 x5_1 = some r) ∧ Aside0 (kq ≤ k) ∧ Aside0 (Below w.heap.size w w'))
  case atStart => exact ⟨(IntKind.u64.wrap (a0)), ((⟨#[]⟩ : ByteArray)), (0), (by first | rfl | (simp; done) | (simp [*]; done)), (by first | rfl | (simp; done) | (simp [*]; done)), (by first | rfl | (simp; done) | (simp [*]; done)), H', ⟨Nat.le_refl _⟩, ⟨by repeat (first | (with_reducible first | exact HB.out | apply below_alloc | apply pw_below_drewN | apply below_drew1) | exact HB.out)⟩⟩
  case round =>
    clear H'
    obtain ⟨x3_1, x4_1, x5_1, rfl, rfl, rfl, HA, HK1, HB⟩ := hrel
    cases gk with
    | zero => exact absurd HA.out (by simp [aneroidref21_number.l0])
    | succ k1 =>
      have H := HA.out
      clear HA
      simp only [aneroidref21_number.l0] at H
      by_cases c2 : x5_1 < 8
      · rw [if_pos c2] at H
        have c2b0 : decide (x5_1 < 8) = true := decide_eq_true c2
        clear c2
        obtain ⟨y155, hy155⟩ : ∃ y_ : List Int, y_ = (([(Int.tmod x3_1 256) % 256] : List Int)) := ⟨_, rfl⟩
        replace H : (if x4_1.size + (strOfNums y155).size ≤ 9223372036854775807 then (aneroidref21_number.l0 k1 (IntKind.u64.wrap (Int.tdiv x3_1 256)) (x4_1 ++ (strOfNums y155)) (wrap64 (x5_1 + 1))) else (none)) = some r := by first | (rw [hy155]; with_reducible exact H) | (have H2_ := (Option.bind_some _ _).symm.trans H; rw [hy155]; with_reducible exact H2_) | (have H2_ := (Option.bind_some _ _).symm.trans H; with_reducible exact H2_) | with_reducible exact H | (rw [hy155]; exact H) | exact H
        have Ny155 := Aside0.mk hy155
        clear hy155
        by_cases c3 : x4_1.size + (strOfNums y155).size ≤ 9223372036854775807
        · rw [if_pos c3] at H
          have c3b0 := eq_true c3
          have c3b1 : decide (x4_1.size + (strOfNums y155).size ≤ 9223372036854775807) = true := decide_eq_true c3
          try have c3b2 : (9223372036854775807 < x4_1.size + (strOfNums y155).size) = False := eq_false (Nat.not_lt.2 c3)
          have H' := Aside0.mk H
          clear H
          go_wp2_with (first | ((with_reducible refine gate_dst (N := 16) rfl ?_); refine Kd.R_lit (Kd.int .u8) _ 5 ?hg (N := 16) ?hd (xs := ([(Int.tmod x3_1 256) % 256] : List Int)) (inner := [.int .u8 ((Int.tmod x3_1 256) % 256)]) (ok := fun _ => True) (okp := fun _ => True) ?hr ?hp (fun _ hk => hk) trivial (Below.refl _ _) (Nat.le_refl _) (by simp) ?_; (case hd => rfl); (case hg => rfl); (case hr => first | (go_simp; done) | (go_simp; rfl)); (case hp => exact (Reps.one (show Kd.M (Kd.int .u8) _ _ _ ((Int.tmod x3_1 256) % 256) [.int .u8 ((Int.tmod x3_1 256) % 256)] from rfl) (Reps.none _ _))); intro v156 w4 ho5 hb hg_ hnew_; clear hg_ hnew_; (first | rw [← Ny155.out] at ho5 | (simp only [Int.reduceToNat] at ho5; rw [← Ny155.out] at ho5)); have n0_ := Aside0.mk (Kd.R_lower ho5 (below_size (by repeat (first | (with_reducible first | exact HB.out | apply below_alloc | apply pw_below_drewN | apply below_drew1) | exact HB.out)))); have n1_ := Aside0.mk (below_step (by repeat (first | (with_reducible first | exact HB.out | apply below_alloc | apply pw_below_drewN | apply below_drew1) | exact HB.out)) hb); clear HB; have HO157 := n0_; have HB := n1_; clear n0_ n1_; clear hb ho5; have hcv6 := own_string (P := Try.prog) Try.underlying68 Try.underlying5 Try.underlying9 (Kd.own_of_R HO157.out)))
          go_roundg k1
          case measure => have := HK1.out; omega
          case rel => exact ⟨(IntKind.u64.wrap (Int.tdiv x3_1 256)), (x4_1 ++ (strOfNums y155)), (wrap64 (x5_1 + 1)), (by first | rfl | (simp; done) | (simp [*]; done)), (by first | rfl | (simp; done) | (simp [*]; done)), (by first | rfl | (simp; done) | (simp [*]; done)), H', ⟨by have := HK1.out; omega⟩, ⟨by repeat (first | (with_reducible first | exact HB.out | apply below_alloc | apply pw_below_drewN | apply below_drew1) | exact HB.out)⟩⟩
        · rw [if_neg c3] at H
          exact absurd H (by simp)
      · rw [if_neg c2] at H
        have c2b0 : decide (x5_1 < 8) = false := decide_eq_false c2
        clear c2
        obtain rfl := Option.some.inj H
        go_wp2
        go_ret
        exact ⟨by first | rfl | (simp [errW_none, errW_some] <;> rfl) | (simp [*, errW_none, errW_some] <;> rfl), by repeat (first | (with_reducible first | exact HB.out | apply below_alloc | apply pw_below_drewN | apply below_drew1) | exact HB.out)⟩

def aneroidref21_Told.l0 : Nat → List (S98) → ByteArray → Int → Option (ByteArray)
  | 0, _, _, _ => none
  | k + 1, x0, x3, x4 => if x4 < (x0.length : Int) then (if 0 ≤ x4 then ((aneroidref21_bit.f 1 ((rd_T98 x0 x4).f1)).bind fun t160 => ((aneroidref21_bit.f 2 ((rd_T98 x0 x4).f2)).bind fun t161 => ((aneroidref21_bit.f 4 ((rd_T98 x0 x4).f3)).bind fun t162 => ((aneroidref21_bit.f 8 ((rd_T98 x0 x4).f4)).bind fun t163 => ((aneroidref21_bit.f 16 ((rd_T98 x0 x4).f5)).bind fun t164 => ((some (([(Int.tmod (IntKind.u64.wrap ((rd_T98 x0 x4).f0)) 256) % 256, (((((((t160 + t161) % 256) + t162) % 256) + t163) % 256) + t164) % 256, 0, 0] : List Int) : List Int)).bind fun y165 => (if x3.size + (strOfNums y165).size ≤ 9223372036854775807 then ((aneroidref21_number.f k ((rd_T98 x0 x4).f6)).bind fun t168 => (if (x3 ++ (strOfNums y165)).size + t168.size ≤ 9223372036854775807 then ((aneroidref21_number.f k ((rd_T98 x0 x4).f7)).bind fun t169 => (if ((x3 ++ (strOfNums y165)) ++ t168).size + t169.size ≤ 9223372036854775807 then ((aneroidref21_number.f k ((rd_T98 x0 x4).f8)).bind fun t170 => (if (((x3 ++ (strOfNums y165)) ++ t168) ++ t169).size + t170.size ≤ 9223372036854775807 then (aneroidref21_Told.l0 k x0 ((((x3 ++ (strOfNums y165)) ++ t168) ++ t169) ++ t170) (wrap64 (x4 + 1))) else (none))) else (none))) else (none))) else (none)))))))) else (none)) else (some x3)
def aneroidref21_Told.f (k : Nat) (l0 : List (S98)) : Option (ByteArray) := aneroidref21_Told.l0 k l0 (⟨#[]⟩ : ByteArray) 0
theorem aneroidref21_Told.mono_l : ∀ k, (∀ y0 y1 y2, LeO (aneroidref21_Told.l0 k y0 y1 y2) (aneroidref21_Told.l0 (k + 1) y0 y1 y2))
  | 0 => fun _ _ _ r h => by simp [aneroidref21_Told.l0] at h
  | k + 1 => by
    have ih0 := aneroidref21_Told.mono_l k
    · intro y0 y1 y2
      unfold aneroidref21_Told.l0
      repeat' first
      | (with_reducible exact ih0 _ _ _)
      | (with_reducible exact aneroidref21_number.mono _ _)
      | (with_reducible exact LeO.refl _)
      | (with_reducible exact LeO.none _)
      | (with_reducible refine LeO.ite ?_ ?_)
      | (with_reducible refine LeO.bind ?_ (fun _ => ?_))
      | exact ih0 _ _ _
      | exact aneroidref21_number.mono _ _
      | exact LeO.none _
      | refine LeO.ite ?_ ?_
      | refine LeO.bind ?_ (fun _ => ?_)
theorem aneroidref21_Told.mono : ∀ a0 k, LeO (aneroidref21_Told.f k a0) (aneroidref21_Told.f (k + 1) a0) := by
  intro a0 k
  have ih0 := aneroidref21_Told.mono_l k
  unfold aneroidref21_Told.f
  repeat' first
      | (with_reducible exact ih0 _ _ _)
      | (with_reducible exact aneroidref21_number.mono _ _)
      | (with_reducible exact LeO.refl _)
      | (with_reducible exact LeO.none _)
      | (with_reducible refine LeO.ite ?_ ?_)
      | (with_reducible refine LeO.bind ?_ (fun _ => ?_))
      | exact ih0 _ _ _
      | exact aneroidref21_number.mono _ _
      | exact LeO.none _
      | refine LeO.ite ?_ ?_
      | refine LeO.bind ?_ (fun _ => ?_)
def aneroidref21_Told.T6 : Bool × List (List Nat × List Nat) := (true, [([], []), ([0], [0]), ([1], [1]), ([], []), ([3], [3]), ([4, 2], [4]), ([2, 5], [2, 5]), ([], []), ([7], [7]), ([8, 5], [8]), ([6, 9], [6, 9]), ([], []), ([11], [11]), ([12, 9], [12]), ([10, 13], [10, 13]), ([], []), ([15], [15]), ([16, 13], [16]), ([14, 17], [14, 17]), ([18, 17, 0, 1, 2, 3, 4, 5, 6, 7, 8, 9, 10, 11, 12, 13, 14, 15, 16, 17, 18], [18])])
def aneroidref21_Told.B6 : List Nat := [0, 1, 3, 0, 8, 31, 63, 0, 128, 447, 1023, 0, 2048, 7103, 16383, 0, 32768, 113599, 262143, 524287]
theorem aneroidref21_Told.tab6 : rtab .any (opsOf Try.f41 6) = aneroidref21_Told.T6 := by kernel_rfl
theorem aneroidref21_Told.bits6 : waitsOk aneroidref21_Told.T6.2 aneroidref21_Told.B6 = true := by kernel_rfl
def aneroidref21_Told.T7 : Bool × List (List Nat × List Nat) := (true, [([], []), ([], []), ([1], [1]), ([2], [2]), ([3], [3]), ([4], [4]), ([], []), ([5, 6], [5, 6]), ([7], [7]), ([0, 8], [0, 8]), ([], []), ([10], [10]), ([11], [11]), ([9, 12], [9, 12]), ([], []), ([14], [14]), ([15, 12], [15]), ([13, 16], [13, 16]), ([], []), ([18], [18]), ([19, 16], [19]), ([17, 20], [17, 20]), ([21, 20, 0, 1, 2, 3, 4, 5, 6, 7, 8, 9, 10, 11, 12, 13, 14, 15, 16, 17, 18, 19, 20, 21], [0, 21])])
def aneroidref21_Told.B7 : List Nat := [0, 0, 2, 6, 14, 30, 0, 126, 254, 511, 0, 1024, 3072, 8191, 0, 16384, 56320, 131071, 0, 262144, 908288, 2097151, 4194303]
theorem aneroidref21_Told.tab7 : rtab .any (opsOf Try.f41 7) = aneroidref21_Told.T7 := by kernel_rfl
theorem aneroidref21_Told.bits7 : waitsOk aneroidref21_Told.T7.2 aneroidref21_Told.B7 = true := by kernel_rfl
set_option maxHeartbeats 8000000 in
set_option maxRecDepth 100000 in
theorem aneroidref21_Told.calls (k : Nat) (A0 : Option Addr) (c0 : Nat) (l0 : List (S98)) (r : ByteArray) (w : World) (hr0 : Kd.C k98 w A0 l0.length l0) (hc0 : l0.length ≤ c0) (h : aneroidref21_Told.f k l0 = some r) :
    Calls Try.prog 41 #[.slice A0 l0.length c0] w fun e w' => e = .returned (.string r) ∧ Below w.heap.size w w' := by
  have hu98 := Try.underlying98
  have HR0 := Aside0.mk hr0
  have HC0 := Aside0.mk hc0
  clear hr0 hc0
  have HB := Aside0.mk (Below.refl w.heap.size w)
  have H : (aneroidref21_Told.l0 k l0 (⟨#[]⟩ : ByteArray) 0) = some r := h
  clear h
  have H' := Aside0.mk H
  clear H
  go_enter Try.func41, Try.ntmps41
  go_wp2
  go_loopg [3, 4] k (fun kq v3 v4 w' => ∃ (x3_1 : ByteArray) (x4_1 : Int), v3 = .string x3_1 ∧ v4 = .int .i64 x4_1 ∧ Aside0 (aneroidref21_Told.l0 kq l0 x3_1 x4_1 = some r) ∧ Aside0 (kq ≤ k) ∧ Aside0 (Below w.heap.size w w'))
  case atStart => exact ⟨((⟨#[]⟩ : ByteArray)), (0), (by first | rfl | (simp; done) | (simp [*]; done)), (by first | rfl | (simp; done) | (simp [*]; done)), H', ⟨Nat.le_refl _⟩, ⟨by repeat (first | (with_reducible first | exact HB.out | apply below_alloc | apply pw_below_drewN | apply below_drew1) | exact HB.out)⟩⟩
  case round =>
    clear H'
    obtain ⟨x3_1, x4_1, rfl, rfl, HA, HK1, HB⟩ := hrel
    cases gk with
    | zero => exact absurd HA.out (by simp [aneroidref21_Told.l0])
    | succ k1 =>
      have H := HA.out
      clear HA
      simp only [aneroidref21_Told.l0] at H
      by_cases c2 : x4_1 < (l0.length : Int)
      · rw [if_pos c2] at H
        have c2b0 : decide (x4_1 < (l0.length : Int)) = true := decide_eq_true c2
        clear c2
        by_cases c3 : 0 ≤ x4_1
        · rw [if_pos c3] at H
          have c3b0 : decide (0 ≤ x4_1) = true := decide_eq_true c3
          clear c3
          replace H := Option.bind_eq_some_iff.mp H
          obtain ⟨t160, A40, H⟩ := H
          replace H : ((aneroidref21_bit.f 2 ((rd_T98 l0 x4_1).f2)).bind fun t161 => ((aneroidref21_bit.f 4 ((rd_T98 l0 x4_1).f3)).bind fun t162 => ((aneroidref21_bit.f 8 ((rd_T98 l0 x4_1).f4)).bind fun t163 => ((aneroidref21_bit.f 16 ((rd_T98 l0 x4_1).f5)).bind fun t164 => ((some (([(Int.tmod (IntKind.u64.wrap ((rd_T98 l0 x4_1).f0)) 256) % 256, (((((((t160 + t161) % 256) + t162) % 256) + t163) % 256) + t164) % 256, 0, 0] : List Int) : List Int)).bind fun y165 => (if x3_1.size + (strOfNums y165).size ≤ 9223372036854775807 then ((aneroidref21_number.f k1 ((rd_T98 l0 x4_1).f6)).bind fun t168 => (if (x3_1 ++ (strOfNums y165)).size + t168.size ≤ 9223372036854775807 then ((aneroidref21_number.f k1 ((rd_T98 l0 x4_1).f7)).bind fun t169 => (if ((x3_1 ++ (strOfNums y165)) ++ t168).size + t169.size ≤ 9223372036854775807 then ((aneroidref21_number.f k1 ((rd_T98 l0 x4_1).f8)).bind fun t170 => (if (((x3_1 ++ (strOfNums y165)) ++ t168) ++ t169).size + t170.size ≤ 9223372036854775807 then (aneroidref21_Told.l0 k1 l0 ((((x3_1 ++ (strOfNums y165)) ++ t168) ++ t169) ++ t170) (wrap64 (x4_1 + 1))) else (none))) else (none))) else (none))) else (none))))))) = some r := H
          have A4 := Aside0.mk A40
          clear A40
          replace H := Option.bind_eq_some_iff.mp H
          obtain ⟨t161, A50, H⟩ := H
          replace H : ((aneroidref21_bit.f 4 ((rd_T98 l0 x4_1).f3)).bind fun t162 => ((aneroidref21_bit.f 8 ((rd_T98 l0 x4_1).f4)).bind fun t163 => ((aneroidref21_bit.f 16 ((rd_T98 l0 x4_1).f5)).bind fun t164 => ((some (([(Int.tmod (IntKind.u64.wrap ((rd_T98 l0 x4_1).f0)) 256) % 256, (((((((t160 + t161) % 256) + t162) % 256) + t163) % 256) + t164) % 256, 0, 0] : List Int) : List Int)).bind fun y165 => (if x3_1.size + (strOfNums y165).size ≤ 9223372036854775807 then ((aneroidref21_number.f k1 ((rd_T98 l0 x4_1).f6)).bind fun t168 => (if (x3_1 ++ (strOfNums y165)).size + t168.size ≤ 9223372036854775807 then ((aneroidref21_number.f k1 ((rd_T98 l0 x4_1).f7)).bind fun t169 => (if ((x3_1 ++ (strOfNums y165)) ++ t168).size + t169.size ≤ 9223372036854775807 then ((aneroidref21_number.f k1 ((rd_T98 l0 x4_1).f8)).bind fun t170 => (if (((x3_1 ++ (strOfNums y165)) ++ t168) ++ t169).size + t170.size ≤ 9223372036854775807 then (aneroidref21_Told.l0 k1 l0 ((((x3_1 ++ (strOfNums y165)) ++ t168) ++ t169) ++ t170) (wrap64 (x4_1 + 1))) else (none))) else (none))) else (none))) else (none)))))) = some r := H
          have A5 := Aside0.mk A50
          clear A50
          replace H := Option.bind_eq_some_iff.mp H
          obtain ⟨t162, A60, H⟩ := H
          replace H : ((aneroidref21_bit.f 8 ((rd_T98 l0 x4_1).f4)).bind fun t163 => ((aneroidref21_bit.f 16 ((rd_T98 l0 x4_1).f5)).bind fun t164 => ((some (([(Int.tmod (IntKind.u64.wrap ((rd_T98 l0 x4_1).f0)) 256) % 256, (((((((t160 + t161) % 256) + t162) % 256) + t163) % 256) + t164) % 256, 0, 0] : List Int) : List Int)).bind fun y165 => (if x3_1.size + (strOfNums y165).size ≤ 9223372036854775807 then ((aneroidref21_number.f k1 ((rd_T98 l0 x4_1).f6)).bind fun t168 => (if (x3_1 ++ (strOfNums y165)).size + t168.size ≤ 9223372036854775807 then ((aneroidref21_number.f k1 ((rd_T98 l0 x4_1).f7)).bind fun t169 => (if ((x3_1 ++ (strOfNums y165)) ++ t168).size + t169.size ≤ 9223372036854775807 then ((aneroidref21_number.f k1 ((rd_T98 l0 x4_1).f8)).bind fun t170 => (if (((x3_1 ++ (strOfNums y165)) ++ t168) ++ t169).size + t170.size ≤ 9223372036854775807 then (aneroidref21_Told.l0 k1 l0 ((((x3_1 ++ (strOfNums y165)) ++ t168) ++ t169) ++ t170) (wrap64 (x4_1 + 1))) else (none))) else (none))) else (none))) else (none))))) = some r := H
          have A6 := Aside0.mk A60
          clear A60
          replace H := Option.bind_eq_some_iff.mp H
          obtain ⟨t163, A70, H⟩ := H
          replace H : ((aneroidref21_bit.f 16 ((rd_T98 l0 x4_1).f5)).bind fun t164 => ((some (([(Int.tmod (IntKind.u64.wrap ((rd_T98 l0 x4_1).f0)) 256) % 256, (((((((t160 + t161) % 256) + t162) % 256) + t163) % 256) + t164) % 256, 0, 0] : List Int) : List Int)).bind fun y165 => (if x3_1.size + (strOfNums y165).size ≤ 9223372036854775807 then ((aneroidref21_number.f k1 ((rd_T98 l0 x4_1).f6)).bind fun t168 => (if (x3_1 ++ (strOfNums y165)).size + t168.size ≤ 9223372036854775807 then ((aneroidref21_number.f k1 ((rd_T98 l0 x4_1).f7)).bind fun t169 => (if ((x3_1 ++ (strOfNums y165)) ++ t168).size + t169.size ≤ 9223372036854775807 then ((aneroidref21_number.f k1 ((rd_T98 l0 x4_1).f8)).bind fun t170 => (if (((x3_1 ++ (strOfNums y165)) ++ t168) ++ t169).size + t170.size ≤ 9223372036854775807 then (aneroidref21_Told.l0 k1 l0 ((((x3_1 ++ (strOfNums y165)) ++ t168) ++ t169) ++ t170) (wrap64 (x4_1 + 1))) else (none))) else (none))) else (none))) else (none)))) = some r := H
          have A7 := Aside0.mk A70
          clear A70
          replace H := Option.bind_eq_some_iff.mp H
          obtain ⟨t164, A80, H⟩ := H
          replace H : ((some (([(Int.tmod (IntKind.u64.wrap ((rd_T98 l0 x4_1).f0)) 256) % 256, (((((((t160 + t161) % 256) + t162) % 256) + t163) % 256) + t164) % 256, 0, 0] : List Int) : List Int)).bind fun y165 => (if x3_1.size + (strOfNums y165).size ≤ 9223372036854775807 then ((aneroidref21_number.f k1 ((rd_T98 l0 x4_1).f6)).bind fun t168 => (if (x3_1 ++ (strOfNums y165)).size + t168.size ≤ 9223372036854775807 then ((aneroidref21_number.f k1 ((rd_T98 l0 x4_1).f7)).bind fun t169 => (if ((x3_1 ++ (strOfNums y165)) ++ t168).size + t169.size ≤ 9223372036854775807 then ((aneroidref21_number.f k1 ((rd_T98 l0 x4_1).f8)).bind fun t170 => (if (((x3_1 ++ (strOfNums y165)) ++ t168) ++ t169).size + t170.size ≤ 9223372036854775807 then (aneroidref21_Told.l0 k1 l0 ((((x3_1 ++ (strOfNums y165)) ++ t168) ++ t169) ++ t170) (wrap64 (x4_1 + 1))) else (none))) else (none))) else (none))) else (none))) = some r := H
          have A8 := Aside0.mk A80
          clear A80
          obtain ⟨y165, hy165⟩ : ∃ y_ : List Int, y_ = (([(Int.tmod (IntKind.u64.wrap ((rd_T98 l0 x4_1).f0)) 256) % 256, (((((((t160 + t161) % 256) + t162) % 256) + t163) % 256) + t164) % 256, 0, 0] : List Int)) := ⟨_, rfl⟩
          replace H : (if x3_1.size + (strOfNums y165).size ≤ 9223372036854775807 then ((aneroidref21_number.f k1 ((rd_T98 l0 x4_1).f6)).bind fun t168 => (if (x3_1 ++ (strOfNums y165)).size + t168.size ≤ 9223372036854775807 then ((aneroidref21_number.f k1 ((rd_T98 l0 x4_1).f7)).bind fun t169 => (if ((x3_1 ++ (strOfNums y165)) ++ t168).size + t169.size ≤ 9223372036854775807 then ((aneroidref21_number.f k1 ((rd_T98 l0 x4_1).f8)).bind fun t170 => (if (((x3_1 ++ (strOfNums y165)) ++ t168) ++ t169).size + t170.size ≤ 9223372036854775807 then (aneroidref21_Told.l0 k1 l0 ((((x3_1 ++ (strOfNums y165)) ++ t168) ++ t169) ++ t170) (wrap64 (x4_1 + 1))) else (none))) else (none))) else (none))) else (none)) = some r := by first | (rw [hy165]; with_reducible exact H) | (have H2_ := (Option.bind_some _ _).symm.trans H; rw [hy165]; with_reducible exact H2_) | (have H2_ := (Option.bind_some _ _).symm.trans H; with_reducible exact H2_) | with_reducible exact H | (rw [hy165]; exact H) | exact H
          have Ny165 := Aside0.mk hy165
          clear hy165
          by_cases c9 : x3_1.size + (strOfNums y165).size ≤ 9223372036854775807
          · rw [if_pos c9] at H
            have c9b0 := eq_true c9
            have c9b1 : decide (x3_1.size + (strOfNums y165).size ≤ 9223372036854775807) = true := decide_eq_true c9
            try have c9b2 : (9223372036854775807 < x3_1.size + (strOfNums y165).size) = False := eq_false (Nat.not_lt.2 c9)
            replace H := Option.bind_eq_some_iff.mp H
            obtain ⟨t168, A100, H⟩ := H
            replace H : (if (x3_1 ++ (strOfNums y165)).size + t168.size ≤ 9223372036854775807 then ((aneroidref21_number.f k1 ((rd_T98 l0 x4_1).f7)).bind fun t169 => (if ((x3_1 ++ (strOfNums y165)) ++ t168).size + t169.size ≤ 9223372036854775807 then ((aneroidref21_number.f k1 ((rd_T98 l0 x4_1).f8)).bind fun t170 => (if (((x3_1 ++ (strOfNums y165)) ++ t168) ++ t169).size + t170.size ≤ 9223372036854775807 then (aneroidref21_Told.l0 k1 l0 ((((x3_1 ++ (strOfNums y165)) ++ t168) ++ t169) ++ t170) (wrap64 (x4_1 + 1))) else (none))) else (none))) else (none)) = some r := H
            have A10 := Aside0.mk A100
            clear A100
            by_cases c11 : (x3_1 ++ (strOfNums y165)).size + t168.size ≤ 9223372036854775807
            · rw [if_pos c11] at H
              have c11b0 := eq_true c11
              have c11b1 : decide ((x3_1 ++ (strOfNums y165)).size + t168.size ≤ 9223372036854775807) = true := decide_eq_true c11
              try have c11b2 : (9223372036854775807 < (x3_1 ++ (strOfNums y165)).size + t168.size) = False := eq_false (Nat.not_lt.2 c11)
              have c11b3 : (9223372036854775807 < x3_1.size + (strOfNums y165).size + t168.size) = False := eq_false (by have h := c11; simp only [ByteArray.size_append] at h; omega)
              replace H := Option.bind_eq_some_iff.mp H
              obtain ⟨t169, A120, H⟩ := H
              replace H : (if ((x3_1 ++ (strOfNums y165)) ++ t168).size + t169.size ≤ 9223372036854775807 then ((aneroidref21_number.f k1 ((rd_T98 l0 x4_1).f8)).bind fun t170 => (if (((x3_1 ++ (strOfNums y165)) ++ t168) ++ t169).size + t170.size ≤ 9223372036854775807 then (aneroidref21_Told.l0 k1 l0 ((((x3_1 ++ (strOfNums y165)) ++ t168) ++ t169) ++ t170) (wrap64 (x4_1 + 1))) else (none))) else (none)) = some r := H
              have A12 := Aside0.mk A120
              clear A120
              by_cases c13 : ((x3_1 ++ (strOfNums y165)) ++ t168).size + t169.size ≤ 9223372036854775807
              · rw [if_pos c13] at H
                have c13b0 := eq_true c13
                have c13b1 : decide (((x3_1 ++ (strOfNums y165)) ++ t168).size + t169.size ≤ 9223372036854775807) = true := decide_eq_true c13
                try have c13b2 : (9223372036854775807 < ((x3_1 ++ (strOfNums y165)) ++ t168).size + t169.size) = False := eq_false (Nat.not_lt.2 c13)
                have c13b3 : (9223372036854775807 < x3_1.size + (strOfNums y165).size + t168.size + t169.size) = False := eq_false (by have h := c13; simp only [ByteArray.size_append] at h; omega)
                replace H := Option.bind_eq_some_iff.mp H
                obtain ⟨t170, A140, H⟩ := H
                replace H : (if (((x3_1 ++ (strOfNums y165)) ++ t168) ++ t169).size + t170.size ≤ 9223372036854775807 then (aneroidref21_Told.l0 k1 l0 ((((x3_1 ++ (strOfNums y165)) ++ t168) ++ t169) ++ t170) (wrap64 (x4_1 + 1))) else (none)) = some r := H
                have A14 := Aside0.mk A140
                clear A140
                by_cases c15 : (((x3_1 ++ (strOfNums y165)) ++ t168) ++ t169).size + t170.size ≤ 9223372036854775807
                · rw [if_pos c15] at H
                  have c15b0 := eq_true c15
                  have c15b1 : decide ((((x3_1 ++ (strOfNums y165)) ++ t168) ++ t169).size + t170.size ≤ 9223372036854775807) = true := decide_eq_true c15
                  try have c15b2 : (9223372036854775807 < (((x3_1 ++ (strOfNums y165)) ++ t168) ++ t169).size + t170.size) = False := eq_false (Nat.not_lt.2 c15)
                  have c15b3 : (9223372036854775807 < x3_1.size + (strOfNums y165).size + t168.size + t169.size + t170.size) = False := eq_false (by have h := c15; simp only [ByteArray.size_append] at h; omega)
                  have H' := Aside0.mk H
                  clear H
                  have p158 : 0 ≤ (x4_1 : Int) := of_decide_eq_true (by first | (with_reducible assumption) | assumption)
                  have q158 : x4_1 < (l0.length : Int) := of_decide_eq_true (by first | (with_reducible assumption) | assumption)
                  obtain ⟨ad158, e158, hx158_0, hx158_1, hx158_2, hx158_3, hx158_4, hx158_5, hx158_6, hx158_7, hx158_8⟩ := at_T98 HR0.out x4_1 p158 q158
                  cases e158
                  replace hx158_0 := (HB.out.cell (World.block_lt_of_cell? w _ hx158_0)).trans hx158_0
                  replace hx158_1 := (HB.out.cell (World.block_lt_of_cell? w _ hx158_1)).trans hx158_1
                  replace hx158_2 := (HB.out.cell (World.block_lt_of_cell? w _ hx158_2)).trans hx158_2
                  replace hx158_3 := (HB.out.cell (World.block_lt_of_cell? w _ hx158_3)).trans hx158_3
                  replace hx158_4 := (HB.out.cell (World.block_lt_of_cell? w _ hx158_4)).trans hx158_4
                  replace hx158_5 := (HB.out.cell (World.block_lt_of_cell? w _ hx158_5)).trans hx158_5
                  replace hx158_6 := (HB.out.cell (World.block_lt_of_cell? w _ hx158_6)).trans hx158_6
                  replace hx158_7 := (HB.out.cell (World.block_lt_of_cell? w _ hx158_7)).trans hx158_7
                  replace hx158_8 := (HB.out.cell (World.block_lt_of_cell? w _ hx158_8)).trans hx158_8
                  replace p158 := eq_true p158
                  replace q158 := eq_true q158
                  try go_wp2_with (first | ((with_reducible refine gate_dst (N := 5) rfl ?_); refine box_event ?hg (N := 5) ?hd (cs := #[.int .i64 0, .bool false, .bool false, .bool false, .bool false, .bool false, .int .i64 0, .int .i64 0, .int .i64 0]) (t := 98) ?hr ?_; (case hd => rfl); (case hg => rfl); (case hr => first | (go_simp; done) | (go_simp; rfl)); intro gb159 hg w16 hbox hb; have n0_ := Aside0.mk (below_step (by repeat (first | (with_reducible first | exact HB.out | apply below_alloc | apply pw_below_drewN | apply below_drew1) | exact HB.out)) hb); have n1_ := Aside0.mk (hbox); have n2_ := Aside0.mk ((by rw [hg]; exact (below_size (by repeat (first | (with_reducible first | exact HB.out | apply below_alloc | apply pw_below_drewN | apply below_drew1) | exact HB.out))) : w.heap.size ≤ gb159)); have n3_ := Aside0.mk ((by rw [hg]; exact (below_size (by repeat (first | (with_reducible first | exact HB.out | apply below_alloc | apply pw_below_drewN | apply below_drew1) | exact HB.out))) : w.heap.size ≤ gb159)); clear HB; have HB := n0_; have BK159 := n1_; have GW159 := n2_; have GE159 := n3_; clear n0_ n1_ n2_ n3_; clear hb hbox hg; have hcz17_0 : w16.cell? ⟨gb159, 0, none⟩ = some (.int .i64 0) := (blk_cell BK159.out 0).trans rfl; have hcz17_1 : w16.cell? ⟨gb159, 1, none⟩ = some (.bool false) := (blk_cell BK159.out 1).trans rfl; have hcz17_2 : w16.cell? ⟨gb159, 2, none⟩ = some (.bool false) := (blk_cell BK159.out 2).trans rfl; have hcz17_3 : w16.cell? ⟨gb159, 3, none⟩ = some (.bool false) := (blk_cell BK159.out 3).trans rfl; have hcz17_4 : w16.cell? ⟨gb159, 4, none⟩ = some (.bool false) := (blk_cell BK159.out 4).trans rfl; have hcz17_5 : w16.cell? ⟨gb159, 5, none⟩ = some (.bool false) := (blk_cell BK159.out 5).trans rfl; have hcz17_6 : w16.cell? ⟨gb159, 6, none⟩ = some (.int .i64 0) := (blk_cell BK159.out 6).trans rfl; have hcz17_7 : w16.cell? ⟨gb159, 7, none⟩ = some (.int .i64 0) := (blk_cell BK159.out 7).trans rfl; have hcz17_8 : w16.cell? ⟨gb159, 8, none⟩ = some (.int .i64 0) := (blk_cell BK159.out 8).trans rfl; have hfz17_0 := blk_frozen BK159.out 0; have hfz17_1 := blk_frozen BK159.out 1; have hfz17_2 := blk_frozen BK159.out 2; have hfz17_3 := blk_frozen BK159.out 3; have hfz17_4 := blk_frozen BK159.out 4; have hfz17_5 := blk_frozen BK159.out 5; have hfz17_6 := blk_frozen BK159.out 6; have hfz17_7 := blk_frozen BK159.out 7; have hfz17_8 := blk_frozen BK159.out 8))
                  have n0_ : Aside0 ((((((((((w16.setCell ⟨gb159, 0, none⟩ (.int .i64 ((rd_T98 l0 x4_1).f0))).setCell ⟨gb159, 1, none⟩ (.bool ((rd_T98 l0 x4_1).f1))).setCell ⟨gb159, 2, none⟩ (.bool ((rd_T98 l0 x4_1).f2))).setCell ⟨gb159, 3, none⟩ (.bool ((rd_T98 l0 x4_1).f3))).setCell ⟨gb159, 4, none⟩ (.bool ((rd_T98 l0 x4_1).f4))).setCell ⟨gb159, 5, none⟩ (.bool ((rd_T98 l0 x4_1).f5))).setCell ⟨gb159, 6, none⟩ (.int .i64 ((rd_T98 l0 x4_1).f6))).setCell ⟨gb159, 7, none⟩ (.int .i64 ((rd_T98 l0 x4_1).f7))).setCell ⟨gb159, 8, none⟩ (.int .i64 ((rd_T98 l0 x4_1).f8))).heap[gb159]? = some (.cells #[.int .i64 ((rd_T98 l0 x4_1).f0), .bool ((rd_T98 l0 x4_1).f1), .bool ((rd_T98 l0 x4_1).f2), .bool ((rd_T98 l0 x4_1).f3), .bool ((rd_T98 l0 x4_1).f4), .bool ((rd_T98 l0 x4_1).f5), .int .i64 ((rd_T98 l0 x4_1).f6), .int .i64 ((rd_T98 l0 x4_1).f7), .int .i64 ((rd_T98 l0 x4_1).f8)] 98 (0, 0))) := ⟨by (with_reducible repeat (first | refine blk_drewN ?_ _ | refine blk_drew ?_ | refine blk_alloc ?_ _)); refine blk_put (cs := #[.int .i64 ((rd_T98 l0 x4_1).f0), .bool ((rd_T98 l0 x4_1).f1), .bool ((rd_T98 l0 x4_1).f2), .bool ((rd_T98 l0 x4_1).f3), .bool ((rd_T98 l0 x4_1).f4), .bool ((rd_T98 l0 x4_1).f5), .int .i64 ((rd_T98 l0 x4_1).f6), .int .i64 ((rd_T98 l0 x4_1).f7), .int .i64 0]) ?_ 8 _ rfl; (with_reducible repeat (first | refine blk_drewN ?_ _ | refine blk_drew ?_ | refine blk_alloc ?_ _)); refine blk_put (cs := #[.int .i64 ((rd_T98 l0 x4_1).f0), .bool ((rd_T98 l0 x4_1).f1), .bool ((rd_T98 l0 x4_1).f2), .bool ((rd_T98 l0 x4_1).f3), .bool ((rd_T98 l0 x4_1).f4), .bool ((rd_T98 l0 x4_1).f5), .int .i64 ((rd_T98 l0 x4_1).f6), .int .i64 0, .int .i64 0]) ?_ 7 _ rfl; (with_reducible repeat (first | refine blk_drewN ?_ _ | refine blk_drew ?_ | refine blk_alloc ?_ _)); refine blk_put (cs := #[.int .i64 ((rd_T98 l0 x4_1).f0), .bool ((rd_T98 l0 x4_1).f1), .bool ((rd_T98 l0 x4_1).f2), .bool ((rd_T98 l0 x4_1).f3), .bool ((rd_T98 l0 x4_1).f4), .bool ((rd_T98 l0 x4_1).f5), .int .i64 0, .int .i64 0, .int .i64 0]) ?_ 6 _ rfl; (with_reducible repeat (first | refine blk_drewN ?_ _ | refine blk_drew ?_ | refine blk_alloc ?_ _)); refine blk_put (cs := #[.int .i64 ((rd_T98 l0 x4_1).f0), .bool ((rd_T98 l0 x4_1).f1), .bool ((rd_T98 l0 x4_1).f2), .bool ((rd_T98 l0 x4_1).f3), .bool ((rd_T98 l0 x4_1).f4), .bool false, .int .i64 0, .int .i64 0, .int .i64 0]) ?_ 5 _ rfl; (with_reducible repeat (first | refine blk_drewN ?_ _ | refine blk_drew ?_ | refine blk_alloc ?_ _)); refine blk_put (cs := #[.int .i64 ((rd_T98 l0 x4_1).f0), .bool ((rd_T98 l0 x4_1).f1), .bool ((rd_T98 l0 x4_1).f2), .bool ((rd_T98 l0 x4_1).f3), .bool false, .bool false, .int .i64 0, .int .i64 0, .int .i64 0]) ?_ 4 _ rfl; (with_reducible repeat (first | refine blk_drewN ?_ _ | refine blk_drew ?_ | refine blk_alloc ?_ _)); refine blk_put (cs := #[.int .i64 ((rd_T98 l0 x4_1).f0), .bool ((rd_T98 l0 x4_1).f1), .bool ((rd_T98 l0 x4_1).f2), .bool false, .bool false, .bool false, .int .i64 0, .int .i64 0, .int .i64 0]) ?_ 3 _ rfl; (with_reducible repeat (first | refine blk_drewN ?_ _ | refine blk_drew ?_ | refine blk_alloc ?_ _)); refine blk_put (cs := #[.int .i64 ((rd_T98 l0 x4_1).f0), .bool ((rd_T98 l0 x4_1).f1), .bool false, .bool false, .bool false, .bool false, .int .i64 0, .int .i64 0, .int .i64 0]) ?_ 2 _ rfl; (with_reducible repeat (first | refine blk_drewN ?_ _ | refine blk_drew ?_ | refine blk_alloc ?_ _)); refine blk_put (cs := #[.int .i64 ((rd_T98 l0 x4_1).f0), .bool false, .bool false, .bool false, .bool false, .bool false, .int .i64 0, .int .i64 0, .int .i64 0]) ?_ 1 _ rfl; (with_reducible repeat (first | refine blk_drewN ?_ _ | refine blk_drew ?_ | refine blk_alloc ?_ _)); refine blk_put (cs := #[.int .i64 0, .bool false, .bool false, .bool false, .bool false, .bool false, .int .i64 0, .int .i64 0, .int .i64 0]) ?_ 0 _ rfl; (with_reducible repeat (first | refine blk_drewN ?_ _ | refine blk_drew ?_ | refine blk_alloc ?_ _)); exact BK159.out⟩
                  have n1_ : Aside0 (Below w.heap.size w (((((((((w16.setCell ⟨gb159, 0, none⟩ (.int .i64 ((rd_T98 l0 x4_1).f0))).setCell ⟨gb159, 1, none⟩ (.bool ((rd_T98 l0 x4_1).f1))).setCell ⟨gb159, 2, none⟩ (.bool ((rd_T98 l0 x4_1).f2))).setCell ⟨gb159, 3, none⟩ (.bool ((rd_T98 l0 x4_1).f3))).setCell ⟨gb159, 4, none⟩ (.bool ((rd_T98 l0 x4_1).f4))).setCell ⟨gb159, 5, none⟩ (.bool ((rd_T98 l0 x4_1).f5))).setCell ⟨gb159, 6, none⟩ (.int .i64 ((rd_T98 l0 x4_1).f6))).setCell ⟨gb159, 7, none⟩ (.int .i64 ((rd_T98 l0 x4_1).f7))).setCell ⟨gb159, 8, none⟩ (.int .i64 ((rd_T98 l0 x4_1).f8)))) := ⟨by repeat (first | (with_reducible first | exact HB.out | apply below_alloc | apply pw_below_drewN | apply below_drew1 | refine below_set ?_ GE159.out) | exact HB.out)⟩
                  (try clear BK159)
                  (try clear HB)
                  generalize (((((((((w16.setCell ⟨gb159, 0, none⟩ (.int .i64 ((rd_T98 l0 x4_1).f0))).setCell ⟨gb159, 1, none⟩ (.bool ((rd_T98 l0 x4_1).f1))).setCell ⟨gb159, 2, none⟩ (.bool ((rd_T98 l0 x4_1).f2))).setCell ⟨gb159, 3, none⟩ (.bool ((rd_T98 l0 x4_1).f3))).setCell ⟨gb159, 4, none⟩ (.bool ((rd_T98 l0 x4_1).f4))).setCell ⟨gb159, 5, none⟩ (.bool ((rd_T98 l0 x4_1).f5))).setCell ⟨gb159, 6, none⟩ (.int .i64 ((rd_T98 l0 x4_1).f6))).setCell ⟨gb159, 7, none⟩ (.int .i64 ((rd_T98 l0 x4_1).f7))).setCell ⟨gb159, 8, none⟩ (.int .i64 ((rd_T98 l0 x4_1).f8))) = w18 at n0_ n1_ ⊢
                  have BK159 := n0_
                  have HB := n1_
                  clear n0_ n1_
                  have n0_ := Aside0.mk (blk_drew BK159.out)
                  have n1_ := Aside0.mk (below_drew1 HB.out)
                  clear BK159
                  clear HB
                  have BK159 := n0_
                  have HB := n1_
                  clear n0_ n1_
                  refine start_ (n := 20) (S := fun w' => w'.cell? ⟨gb159, 0, none⟩ = some (.int .i64 ((rd_T98 l0 x4_1).f0)) ∧ w'.cell? ⟨gb159, 1, none⟩ = some (.bool ((rd_T98 l0 x4_1).f1)) ∧ w'.cell? ⟨gb159, 2, none⟩ = some (.bool ((rd_T98 l0 x4_1).f2)) ∧ w'.cell? ⟨gb159, 3, none⟩ = some (.bool ((rd_T98 l0 x4_1).f3)) ∧ w'.cell? ⟨gb159, 4, none⟩ = some (.bool ((rd_T98 l0 x4_1).f4)) ∧ w'.cell? ⟨gb159, 5, none⟩ = some (.bool ((rd_T98 l0 x4_1).f5)) ∧ w'.cell? ⟨gb159, 6, none⟩ = some (.int .i64 ((rd_T98 l0 x4_1).f6)) ∧ w'.cell? ⟨gb159, 7, none⟩ = some (.int .i64 ((rd_T98 l0 x4_1).f7)) ∧ w'.cell? ⟨gb159, 8, none⟩ = some (.int .i64 ((rd_T98 l0 x4_1).f8))) (ds := []) #[false, false, false, false, false, false, false, false, false, false, false, false, false, false, false, false, false, false, false, false] (by kernel_rfl) rfl rfl ⟨(blk_cell BK159.out 0).trans rfl, (blk_cell BK159.out 1).trans rfl, (blk_cell BK159.out 2).trans rfl, (blk_cell BK159.out 3).trans rfl, (blk_cell BK159.out 4).trans rfl, (blk_cell BK159.out 5).trans rfl, (blk_cell BK159.out 6).trans rfl, (blk_cell BK159.out 7).trans rfl, (blk_cell BK159.out 8).trans rfl⟩ (fun hHeld => ?_); refine with_tabW aneroidref21_Told.tab6 aneroidref21_Told.bits6 (fun HT_ HW_ => ?_)
                  generalize w18.drew = w19 at BK159 HB hHeld ⊢
                  refine pure_ (i := 0) (N := some 17) (v := ?_) (a' := ?_) #[true, false, false, false, false, false, false, false, false, false, false, false, false, false, false, false, false, false, false, false] rfl rfl (any_of HT_.out (by kernel_rfl)) (fun _ _ _ h => h) (Or.inl ⟨by rfl, ?_⟩) ?_ ?_
                  rotate_left
                  · intro w'
                    go_simp
                    with_reducible rfl
                  rotate_left
                  · simp only [Act.put, List.setIfInBounds_toArray, List.set_cons_zero, List.set_cons_succ, i64_w, i32_w]
                    rfl
                  refine pure_ (i := 3) (N := some 20) (v := ?_) (a' := ?_) #[true, false, false, true, false, false, false, false, false, false, false, false, false, false, false, false, false, false, false, false] rfl rfl (any_of HT_.out (by kernel_rfl)) (fun _ _ _ h => h) (Or.inl ⟨by rfl, ?_⟩) ?_ ?_
                  rotate_left
                  · intro w'
                    go_simp
                    with_reducible rfl
                  rotate_left
                  · simp only [Act.put, List.setIfInBounds_toArray, List.set_cons_zero, List.set_cons_succ, i64_w, i32_w]
                    rfl
                  refine pure_ (i := 7) (N := some 24) (v := ?_) (a' := ?_) #[true, false, false, true, false, false, false, true, false, false, false, false, false, false, false, false, false, false, false, false] rfl rfl (any_of HT_.out (by kernel_rfl)) (fun _ _ _ h => h) (Or.inl ⟨by rfl, ?_⟩) ?_ ?_
                  rotate_left
                  · intro w'
                    go_simp
                    with_reducible rfl
                  rotate_left
                  · simp only [Act.put, List.setIfInBounds_toArray, List.set_cons_zero, List.set_cons_succ, i64_w, i32_w]
                    rfl
                  refine pure_ (i := 11) (N := some 28) (v := ?_) (a' := ?_) #[true, false, false, true, false, false, false, true, false, false, false, true, false, false, false, false, false, false, false, false] rfl rfl (any_of HT_.out (by kernel_rfl)) (fun _ _ _ h => h) (Or.inl ⟨by rfl, ?_⟩) ?_ ?_
                  rotate_left
                  · intro w'
                    go_simp
                    with_reducible rfl
                  rotate_left
                  · simp only [Act.put, List.setIfInBounds_toArray, List.set_cons_zero, List.set_cons_succ, i64_w, i32_w]
                    rfl
                  refine pure_ (i := 15) (N := some 32) (v := ?_) (a' := ?_) #[true, false, false, true, false, false, false, true, false, false, false, true, false, false, false, true, false, false, false, false] rfl rfl (any_of HT_.out (by kernel_rfl)) (fun _ _ _ h => h) (Or.inl ⟨by rfl, ?_⟩) ?_ ?_
                  rotate_left
                  · intro w'
                    go_simp
                    with_reducible rfl
                  rotate_left
                  · simp only [Act.put, List.setIfInBounds_toArray, List.set_cons_zero, List.set_cons_succ, i64_w, i32_w]
                    rfl
                  refine take_ (i := 1) (N := some 18) (v := ?_) (a' := ?_) #[true, true, false, true, false, false, false, true, false, false, false, true, false, false, false, true, false, false, false, false] rfl rfl (take_ofW HT_.out HW_.out (by kernel_rfl)) (fun _ _ _ h => h) (Or.inl ⟨by rfl, ?_⟩) hHeld ?_ ?_
                  rotate_left
                  · rintro w' ⟨s0, s1, s2, s3, s4, s5, s6, s7, s8⟩
                    go_simp
                    with_reducible rfl
                  rotate_left
                  · simp only [Act.put, List.setIfInBounds_toArray, List.set_cons_zero, List.set_cons_succ, i64_w, i32_w]
                    rfl
                  refine take_ (i := 4) (N := some 21) (v := ?_) (a' := ?_) #[true, true, false, true, true, false, false, true, false, false, false, true, false, false, false, true, false, false, false, false] rfl rfl (take_ofW HT_.out HW_.out (by kernel_rfl)) (fun _ _ _ h => h) (Or.inl ⟨by rfl, ?_⟩) hHeld ?_ ?_
                  rotate_left
                  · rintro w' ⟨s0, s1, s2, s3, s4, s5, s6, s7, s8⟩
                    go_simp
                    with_reducible rfl
                  rotate_left
                  · simp only [Act.put, List.setIfInBounds_toArray, List.set_cons_zero, List.set_cons_succ, i64_w, i32_w]
                    rfl
                  refine take_ (i := 8) (N := some 25) (v := ?_) (a' := ?_) #[true, true, false, true, true, false, false, true, true, false, false, true, false, false, false, true, false, false, false, false] rfl rfl (take_ofW HT_.out HW_.out (by kernel_rfl)) (fun _ _ _ h => h) (Or.inl ⟨by rfl, ?_⟩) hHeld ?_ ?_
                  rotate_left
                  · rintro w' ⟨s0, s1, s2, s3, s4, s5, s6, s7, s8⟩
                    go_simp
                    with_reducible rfl
                  rotate_left
                  · simp only [Act.put, List.setIfInBounds_toArray, List.set_cons_zero, List.set_cons_succ, i64_w, i32_w]
                    rfl
                  refine take_ (i := 12) (N := some 29) (v := ?_) (a' := ?_) #[true, true, false, true, true, false, false, true, true, false, false, true, true, false, false, true, false, false, false, false] rfl rfl (take_ofW HT_.out HW_.out (by kernel_rfl)) (fun _ _ _ h => h) (Or.inl ⟨by rfl, ?_⟩) hHeld ?_ ?_
                  rotate_left
                  · rintro w' ⟨s0, s1, s2, s3, s4, s5, s6, s7, s8⟩
                    go_simp
                    with_reducible rfl
                  rotate_left
                  · simp only [Act.put, List.setIfInBounds_toArray, List.set_cons_zero, List.set_cons_succ, i64_w, i32_w]
                    rfl
                  refine take_ (i := 16) (N := some 33) (v := ?_) (a' := ?_) #[true, true, false, true, true, false, false, true, true, false, false, true, true, false, false, true, true, false, false, false] rfl rfl (take_ofW HT_.out HW_.out (by kernel_rfl)) (fun _ _ _ h => h) (Or.inl ⟨by rfl, ?_⟩) hHeld ?_ ?_
                  rotate_left
                  · rintro w' ⟨s0, s1, s2, s3, s4, s5, s6, s7, s8⟩
                    go_simp
                    with_reducible rfl
                  rotate_left
                  · simp only [Act.put, List.setIfInBounds_toArray, List.set_cons_zero, List.set_cons_succ, i64_w, i32_w]
                    rfl
                  refine one_ (i := 2) (N := some 19) #[true, true, true, true, true, false, false, true, true, false, false, true, true, false, false, true, true, false, false, false] rfl rfl (one_of HT_.out (by kernel_rfl)) (by decide) (fun K hK => ?_)
                  refine goes_ Try.func55 (by kernel_rfl) rfl #[.int .u8 1, .bool ((rd_T98 l0 x4_1).f1)] (by rfl) rfl rfl (by (try simp only [List.map_toArray, List.map_cons, List.map_nil]); first | done | rfl | (simp only [List.length_drop, List.length_take]; rfl)) ?_
                  with_reducible refine (aneroidref21_bit.calls 1 ((rd_T98 l0 x4_1).f1) t160 _ A4.out).mono ?_
                  rintro e w19 ⟨rfl, hd⟩
                  have n0_ := Aside0.mk (blk_below BK159.out hd.below)
                  have n1_ := Aside0.mk (below_step HB.out hd.below)
                  clear BK159 HB hd
                  have BK159 := n0_
                  have HB := n1_
                  clear n0_ n1_
                  refine ⟨_, rfl, ?_⟩
                  refine hK.out _ _ ⟨(blk_cell BK159.out 0).trans rfl, (blk_cell BK159.out 1).trans rfl, (blk_cell BK159.out 2).trans rfl, (blk_cell BK159.out 3).trans rfl, (blk_cell BK159.out 4).trans rfl, (blk_cell BK159.out 5).trans rfl, (blk_cell BK159.out 6).trans rfl, (blk_cell BK159.out 7).trans rfl, (blk_cell BK159.out 8).trans rfl⟩ (fun hHeld => ?_)
                  clear hK K
                  refine norm_ (a' := ?_) ?_ ?_
                  rotate_left
                  · show Act.put _ (some 19) _ = _
                    simp only [Act.put, List.setIfInBounds_toArray, List.set_cons_zero, List.set_cons_succ, i64_w, i32_w]
                    rfl
                  refine one_ (i := 5) (N := some 22) #[true, true, true, true, true, true, false, true, true, false, false, true, true, false, false, true, true, false, false, false] rfl rfl (one_of HT_.out (by kernel_rfl)) (by decide) (fun K hK => ?_)
                  refine goes_ Try.func55 (by kernel_rfl) rfl #[.int .u8 2, .bool ((rd_T98 l0 x4_1).f2)] (by rfl) rfl rfl (by (try simp only [List.map_toArray, List.map_cons, List.map_nil]); first | done | rfl | (simp only [List.length_drop, List.length_take]; rfl)) ?_
                  with_reducible refine (aneroidref21_bit.calls 2 ((rd_T98 l0 x4_1).f2) t161 _ A5.out).mono ?_
                  rintro e w19 ⟨rfl, hd⟩
                  have n0_ := Aside0.mk (blk_below BK159.out hd.below)
                  have n1_ := Aside0.mk (below_step HB.out hd.below)
                  clear BK159 HB hd
                  have BK159 := n0_
                  have HB := n1_
                  clear n0_ n1_
                  refine ⟨_, rfl, ?_⟩
                  refine hK.out _ _ ⟨(blk_cell BK159.out 0).trans rfl, (blk_cell BK159.out 1).trans rfl, (blk_cell BK159.out 2).trans rfl, (blk_cell BK159.out 3).trans rfl, (blk_cell BK159.out 4).trans rfl, (blk_cell BK159.out 5).trans rfl, (blk_cell BK159.out 6).trans rfl, (blk_cell BK159.out 7).trans rfl, (blk_cell BK159.out 8).trans rfl⟩ (fun hHeld => ?_)
                  clear hK K
                  refine norm_ (a' := ?_) ?_ ?_
                  rotate_left
                  · show Act.put _ (some 22) _ = _
                    simp only [Act.put, List.setIfInBounds_toArray, List.set_cons_zero, List.set_cons_succ, i64_w, i32_w]
                    rfl
                  refine pure_ (i := 6) (N := some 23) (v := ?_) (a' := ?_) #[true, true, true, true, true, true, true, true, true, false, false, true, true, false, false, true, true, false, false, false] rfl rfl (any_of HT_.out (by kernel_rfl)) (fun _ _ _ h => h) (Or.inl ⟨by rfl, ?_⟩) ?_ ?_
                  rotate_left
                  · intro w'
                    go_simp
                    with_reducible rfl
                  rotate_left
                  · simp only [Act.put, List.setIfInBounds_toArray, List.set_cons_zero, List.set_cons_succ, i64_w, i32_w]
                    rfl
                  refine one_ (i := 9) (N := some 26) #[true, true, true, true, true, true, true, true, true, true, false, true, true, false, false, true, true, false, false, false] rfl rfl (one_of HT_.out (by kernel_rfl)) (by decide) (fun K hK => ?_)
                  refine goes_ Try.func55 (by kernel_rfl) rfl #[.int .u8 4, .bool ((rd_T98 l0 x4_1).f3)] (by rfl) rfl rfl (by (try simp only [List.map_toArray, List.map_cons, List.map_nil]); first | done | rfl | (simp only [List.length_drop, List.length_take]; rfl)) ?_
                  with_reducible refine (aneroidref21_bit.calls 4 ((rd_T98 l0 x4_1).f3) t162 _ A6.out).mono ?_
                  rintro e w19 ⟨rfl, hd⟩
                  have n0_ := Aside0.mk (blk_below BK159.out hd.below)
                  have n1_ := Aside0.mk (below_step HB.out hd.below)
                  clear BK159 HB hd
                  have BK159 := n0_
                  have HB := n1_
                  clear n0_ n1_
                  refine ⟨_, rfl, ?_⟩
                  refine hK.out _ _ ⟨(blk_cell BK159.out 0).trans rfl, (blk_cell BK159.out 1).trans rfl, (blk_cell BK159.out 2).trans rfl, (blk_cell BK159.out 3).trans rfl, (blk_cell BK159.out 4).trans rfl, (blk_cell BK159.out 5).trans rfl, (blk_cell BK159.out 6).trans rfl, (blk_cell BK159.out 7).trans rfl, (blk_cell BK159.out 8).trans rfl⟩ (fun hHeld => ?_)
                  clear hK K
                  refine norm_ (a' := ?_) ?_ ?_
                  rotate_left
                  · show Act.put _ (some 26) _ = _
                    simp only [Act.put, List.setIfInBounds_toArray, List.set_cons_zero, List.set_cons_succ, i64_w, i32_w]
                    rfl
                  refine pure_ (i := 10) (N := some 27) (v := ?_) (a' := ?_) #[true, true, true, true, true, true, true, true, true, true, true, true, true, false, false, true, true, false, false, false] rfl rfl (any_of HT_.out (by kernel_rfl)) (fun _ _ _ h => h) (Or.inl ⟨by rfl, ?_⟩) ?_ ?_
                  rotate_left
                  · intro w'
                    go_simp
                    with_reducible rfl
                  rotate_left
                  · simp only [Act.put, List.setIfInBounds_toArray, List.set_cons_zero, List.set_cons_succ, i64_w, i32_w]
                    rfl
                  refine one_ (i := 13) (N := some 30) #[true, true, true, true, true, true, true, true, true, true, true, true, true, true, false, true, true, false, false, false] rfl rfl (one_of HT_.out (by kernel_rfl)) (by decide) (fun K hK => ?_)
                  refine goes_ Try.func55 (by kernel_rfl) rfl #[.int .u8 8, .bool ((rd_T98 l0 x4_1).f4)] (by rfl) rfl rfl (by (try simp only [List.map_toArray, List.map_cons, List.map_nil]); first | done | rfl | (simp only [List.length_drop, List.length_take]; rfl)) ?_
                  with_reducible refine (aneroidref21_bit.calls 8 ((rd_T98 l0 x4_1).f4) t163 _ A7.out).mono ?_
                  rintro e w19 ⟨rfl, hd⟩
                  have n0_ := Aside0.mk (blk_below BK159.out hd.below)
                  have n1_ := Aside0.mk (below_step HB.out hd.below)
                  clear BK159 HB hd
                  have BK159 := n0_
                  have HB := n1_
                  clear n0_ n1_
                  refine ⟨_, rfl, ?_⟩
                  refine hK.out _ _ ⟨(blk_cell BK159.out 0).trans rfl, (blk_cell BK159.out 1).trans rfl, (blk_cell BK159.out 2).trans rfl, (blk_cell BK159.out 3).trans rfl, (blk_cell BK159.out 4).trans rfl, (blk_cell BK159.out 5).trans rfl, (blk_cell BK159.out 6).trans rfl, (blk_cell BK159.out 7).trans rfl, (blk_cell BK159.out 8).trans rfl⟩ (fun hHeld => ?_)
                  clear hK K
                  refine norm_ (a' := ?_) ?_ ?_
                  rotate_left
                  · show Act.put _ (some 30) _ = _
                    simp only [Act.put, List.setIfInBounds_toArray, List.set_cons_zero, List.set_cons_succ, i64_w, i32_w]
                    rfl
                  refine pure_ (i := 14) (N := some 31) (v := ?_) (a' := ?_) #[true, true, true, true, true, true, true, true, true, true, true, true, true, true, true, true, true, false, false, false] rfl rfl (any_of HT_.out (by kernel_rfl)) (fun _ _ _ h => h) (Or.inl ⟨by rfl, ?_⟩) ?_ ?_
                  rotate_left
                  · intro w'
                    go_simp
                    with_reducible rfl
                  rotate_left
                  · simp only [Act.put, List.setIfInBounds_toArray, List.set_cons_zero, List.set_cons_succ, i64_w, i32_w]
                    rfl
                  refine one_ (i := 17) (N := some 34) #[true, true, true, true, true, true, true, true, true, true, true, true, true, true, true, true, true, true, false, false] rfl rfl (one_of HT_.out (by kernel_rfl)) (by decide) (fun K hK => ?_)
                  refine goes_ Try.func55 (by kernel_rfl) rfl #[.int .u8 16, .bool ((rd_T98 l0 x4_1).f5)] (by rfl) rfl rfl (by (try simp only [List.map_toArray, List.map_cons, List.map_nil]); first | done | rfl | (simp only [List.length_drop, List.length_take]; rfl)) ?_
                  with_reducible refine (aneroidref21_bit.calls 16 ((rd_T98 l0 x4_1).f5) t164 _ A8.out).mono ?_
                  rintro e w19 ⟨rfl, hd⟩
                  have n0_ := Aside0.mk (blk_below BK159.out hd.below)
                  have n1_ := Aside0.mk (below_step HB.out hd.below)
                  clear BK159 HB hd
                  have BK159 := n0_
                  have HB := n1_
                  clear n0_ n1_
                  refine ⟨_, rfl, ?_⟩
                  refine hK.out _ _ ⟨(blk_cell BK159.out 0).trans rfl, (blk_cell BK159.out 1).trans rfl, (blk_cell BK159.out 2).trans rfl, (blk_cell BK159.out 3).trans rfl, (blk_cell BK159.out 4).trans rfl, (blk_cell BK159.out 5).trans rfl, (blk_cell BK159.out 6).trans rfl, (blk_cell BK159.out 7).trans rfl, (blk_cell BK159.out 8).trans rfl⟩ (fun hHeld => ?_)
                  clear hK K
                  refine norm_ (a' := ?_) ?_ ?_
                  rotate_left
                  · show Act.put _ (some 34) _ = _
                    simp only [Act.put, List.setIfInBounds_toArray, List.set_cons_zero, List.set_cons_succ, i64_w, i32_w]
                    rfl
                  refine pure_ (i := 18) (N := some 35) (v := ?_) (a' := ?_) #[true, true, true, true, true, true, true, true, true, true, true, true, true, true, true, true, true, true, true, false] rfl rfl (any_of HT_.out (by kernel_rfl)) (fun _ _ _ h => h) (Or.inl ⟨by rfl, ?_⟩) ?_ ?_
                  rotate_left
                  · intro w'
                    go_simp
                    with_reducible rfl
                  rotate_left
                  · simp only [Act.put, List.setIfInBounds_toArray, List.set_cons_zero, List.set_cons_succ, i64_w, i32_w]
                    rfl
                  refine pure_ (i := 19) (N := some 6) (v := ?_) (a' := ?_) #[true, true, true, true, true, true, true, true, true, true, true, true, true, true, true, true, true, true, true, true] rfl rfl (any_of HT_.out (by kernel_rfl)) (fun _ _ _ h => h) (Or.inl ⟨by rfl, ?_⟩) ?_ ?_
                  rotate_left
                  · intro w'
                    go_simp
                    with_reducible rfl
                  rotate_left
                  · simp only [Act.put, List.setIfInBounds_toArray, List.set_cons_zero, List.set_cons_succ, i64_w, i32_w]
                    rfl
                  refine done_ (done_of HT_.out (by kernel_rfl)) ?_
                  try go_wp2
                  have n0_ := Aside0.mk (blk_drew BK159.out)
                  have n1_ := Aside0.mk (below_drew1 HB.out)
                  clear BK159
                  clear HB
                  have BK159 := n0_
                  have HB := n1_
                  clear n0_ n1_
                  refine start_ (n := 23) (S := fun w' => w'.cell? ⟨gb159, 0, none⟩ = some (.int .i64 ((rd_T98 l0 x4_1).f0)) ∧ w'.cell? ⟨gb159, 1, none⟩ = some (.bool ((rd_T98 l0 x4_1).f1)) ∧ w'.cell? ⟨gb159, 2, none⟩ = some (.bool ((rd_T98 l0 x4_1).f2)) ∧ w'.cell? ⟨gb159, 3, none⟩ = some (.bool ((rd_T98 l0 x4_1).f3)) ∧ w'.cell? ⟨gb159, 4, none⟩ = some (.bool ((rd_T98 l0 x4_1).f4)) ∧ w'.cell? ⟨gb159, 5, none⟩ = some (.bool ((rd_T98 l0 x4_1).f5)) ∧ w'.cell? ⟨gb159, 6, none⟩ = some (.int .i64 ((rd_T98 l0 x4_1).f6)) ∧ w'.cell? ⟨gb159, 7, none⟩ = some (.int .i64 ((rd_T98 l0 x4_1).f7)) ∧ w'.cell? ⟨gb159, 8, none⟩ = some (.int .i64 ((rd_T98 l0 x4_1).f8))) (ds := []) #[false, false, false, false, false, false, false, false, false, false, false, false, false, false, false, false, false, false, false, false, false, false, false] (by kernel_rfl) rfl rfl ⟨(blk_cell BK159.out 0).trans rfl, (blk_cell BK159.out 1).trans rfl, (blk_cell BK159.out 2).trans rfl, (blk_cell BK159.out 3).trans rfl, (blk_cell BK159.out 4).trans rfl, (blk_cell BK159.out 5).trans rfl, (blk_cell BK159.out 6).trans rfl, (blk_cell BK159.out 7).trans rfl, (blk_cell BK159.out 8).trans rfl⟩ (fun hHeld => ?_); refine with_tabW aneroidref21_Told.tab7 aneroidref21_Told.bits7 (fun HT_ HW_ => ?_)
                  generalize w19.drew = w20 at BK159 HB hHeld ⊢
                  refine pure_ (i := 0) (N := some 36) (v := ?_) (a' := ?_) #[true, false, false, false, false, false, false, false, false, false, false, false, false, false, false, false, false, false, false, false, false, false, false] rfl rfl (any_of HT_.out (by kernel_rfl)) (fun _ _ _ h => h) (Or.inl ⟨by rfl, ?_⟩) ?_ ?_
                  rotate_left
                  · intro w'
                    go_simp
                    with_reducible rfl
                  rotate_left
                  · simp only [Act.put, List.setIfInBounds_toArray, List.set_cons_zero, List.set_cons_succ, i64_w, i32_w]
                    rfl
                  refine pure_ (i := 1) (N := some 37) (v := ?_) (a' := ?_) #[true, true, false, false, false, false, false, false, false, false, false, false, false, false, false, false, false, false, false, false, false, false, false] rfl rfl (any_of HT_.out (by kernel_rfl)) (fun _ _ _ h => h) (Or.inl ⟨by rfl, ?_⟩) ?_ ?_
                  rotate_left
                  · intro w'
                    go_simp
                    with_reducible rfl
                  rotate_left
                  · simp only [Act.put, List.setIfInBounds_toArray, List.set_cons_zero, List.set_cons_succ, i64_w, i32_w]
                    rfl
                  refine pure_ (i := 6) (N := some 42) (v := ?_) (a' := ?_) #[true, true, false, false, false, false, true, false, false, false, false, false, false, false, false, false, false, false, false, false, false, false, false] rfl rfl (any_of HT_.out (by kernel_rfl)) (fun _ _ _ h => h) (Or.inl ⟨by rfl, ?_⟩) ?_ ?_
                  rotate_left
                  · intro w'
                    go_simp
                    with_reducible rfl
                  rotate_left
                  · simp only [Act.put, List.setIfInBounds_toArray, List.set_cons_zero, List.set_cons_succ, i64_w, i32_w]
                    rfl
                  refine pure_ (i := 10) (N := some 46) (v := ?_) (a' := ?_) #[true, true, false, false, false, false, true, false, false, false, true, false, false, false, false, false, false, false, false, false, false, false, false] rfl rfl (any_of HT_.out (by kernel_rfl)) (fun _ _ _ h => h) (Or.inl ⟨by rfl, ?_⟩) ?_ ?_
                  rotate_left
                  · intro w'
                    go_simp
                    with_reducible rfl
                  rotate_left
                  · simp only [Act.put, List.setIfInBounds_toArray, List.set_cons_zero, List.set_cons_succ, i64_w, i32_w]
                    rfl
                  refine pure_ (i := 14) (N := some 50) (v := ?_) (a' := ?_) #[true, true, false, false, false, false, true, false, false, false, true, false, false, false, true, false, false, false, false, false, false, false, false] rfl rfl (any_of HT_.out (by kernel_rfl)) (fun _ _ _ h => h) (Or.inl ⟨by rfl, ?_⟩) ?_ ?_
                  rotate_left
                  · intro w'
                    go_simp
                    with_reducible rfl
                  rotate_left
                  · simp only [Act.put, List.setIfInBounds_toArray, List.set_cons_zero, List.set_cons_succ, i64_w, i32_w]
                    rfl
                  refine pure_ (i := 18) (N := some 54) (v := ?_) (a' := ?_) #[true, true, false, false, false, false, true, false, false, false, true, false, false, false, true, false, false, false, true, false, false, false, false] rfl rfl (any_of HT_.out (by kernel_rfl)) (fun _ _ _ h => h) (Or.inl ⟨by rfl, ?_⟩) ?_ ?_
                  rotate_left
                  · intro w'
                    go_simp
                    with_reducible rfl
                  rotate_left
                  · simp only [Act.put, List.setIfInBounds_toArray, List.set_cons_zero, List.set_cons_succ, i64_w, i32_w]
                    rfl
                  refine take_ (i := 2) (N := some 38) (v := ?_) (a' := ?_) #[true, true, true, false, false, false, true, false, false, false, true, false, false, false, true, false, false, false, true, false, false, false, false] rfl rfl (take_ofW HT_.out HW_.out (by kernel_rfl)) (fun _ _ _ h => h) (Or.inl ⟨by rfl, ?_⟩) hHeld ?_ ?_
                  rotate_left
                  · rintro w' ⟨s0, s1, s2, s3, s4, s5, s6, s7, s8⟩
                    go_simp
                    with_reducible rfl
                  rotate_left
                  · simp only [Act.put, List.setIfInBounds_toArray, List.set_cons_zero, List.set_cons_succ, i64_w, i32_w]
                    rfl
                  refine pure_ (i := 3) (N := some 39) (v := ?_) (a' := ?_) #[true, true, true, true, false, false, true, false, false, false, true, false, false, false, true, false, false, false, true, false, false, false, false] rfl rfl (any_of HT_.out (by kernel_rfl)) (fun _ _ _ h => h) (Or.inl ⟨by rfl, ?_⟩) ?_ ?_
                  rotate_left
                  · intro w'
                    go_simp
                    with_reducible rfl
                  rotate_left
                  · simp only [Act.put, List.setIfInBounds_toArray, List.set_cons_zero, List.set_cons_succ, i64_w, i32_w]
                    rfl
                  refine pure_ (i := 4) (N := some 40) (v := ?_) (a' := ?_) #[true, true, true, true, true, false, true, false, false, false, true, false, false, false, true, false, false, false, true, false, false, false, false] rfl rfl (any_of HT_.out (by kernel_rfl)) (fun _ _ _ h => h) (Or.inl ⟨by rfl, ?_⟩) ?_ ?_
                  rotate_left
                  · intro w'
                    go_simp
                    with_reducible rfl
                  rotate_left
                  · simp only [Act.put, List.setIfInBounds_toArray, List.set_cons_zero, List.set_cons_succ, i64_w, i32_w]
                    rfl
                  refine pure_ (i := 5) (N := some 41) (v := ?_) (a' := ?_) #[true, true, true, true, true, true, true, false, false, false, true, false, false, false, true, false, false, false, true, false, false, false, false] rfl rfl (any_of HT_.out (by kernel_rfl)) (fun _ _ _ h => h) (Or.inl ⟨by rfl, ?_⟩) ?_ ?_
                  rotate_left
                  · intro w'
                    go_simp
                    with_reducible rfl
                  rotate_left
                  · simp only [Act.put, List.setIfInBounds_toArray, List.set_cons_zero, List.set_cons_succ, i64_w, i32_w]
                    rfl
                  refine take_ (i := 11) (N := some 47) (v := ?_) (a' := ?_) #[true, true, true, true, true, true, true, false, false, false, true, true, false, false, true, false, false, false, true, false, false, false, false] rfl rfl (take_ofW HT_.out HW_.out (by kernel_rfl)) (fun _ _ _ h => h) (Or.inl ⟨by rfl, ?_⟩) hHeld ?_ ?_
                  rotate_left
                  · rintro w' ⟨s0, s1, s2, s3, s4, s5, s6, s7, s8⟩
                    go_simp
                    with_reducible rfl
                  rotate_left
                  · simp only [Act.put, List.setIfInBounds_toArray, List.set_cons_zero, List.set_cons_succ, i64_w, i32_w]
                    rfl
                  refine take_ (i := 15) (N := some 51) (v := ?_) (a' := ?_) #[true, true, true, true, true, true, true, false, false, false, true, true, false, false, true, true, false, false, true, false, false, false, false] rfl rfl (take_ofW HT_.out HW_.out (by kernel_rfl)) (fun _ _ _ h => h) (Or.inl ⟨by rfl, ?_⟩) hHeld ?_ ?_
                  rotate_left
                  · rintro w' ⟨s0, s1, s2, s3, s4, s5, s6, s7, s8⟩
                    go_simp
                    with_reducible rfl
                  rotate_left
                  · simp only [Act.put, List.setIfInBounds_toArray, List.set_cons_zero, List.set_cons_succ, i64_w, i32_w]
                    rfl
                  refine take_ (i := 19) (N := some 55) (v := ?_) (a' := ?_) #[true, true, true, true, true, true, true, false, false, false, true, true, false, false, true, true, false, false, true, true, false, false, false] rfl rfl (take_ofW HT_.out HW_.out (by kernel_rfl)) (fun _ _ _ h => h) (Or.inl ⟨by rfl, ?_⟩) hHeld ?_ ?_
                  rotate_left
                  · rintro w' ⟨s0, s1, s2, s3, s4, s5, s6, s7, s8⟩
                    go_simp
                    with_reducible rfl
                  rotate_left
                  · simp only [Act.put, List.setIfInBounds_toArray, List.set_cons_zero, List.set_cons_succ, i64_w, i32_w]
                    rfl
                  refine join_ (σ := Value) 2 #[true, true, true, true, true, true, true, true, true, true, true, true, true, true, true, true, true, true, true, true, true, false, false] (fun s_ => [(43, s_), (44, .string (strOfNums y165)), (48, .string t168), (52, .string t169), (56, .string t170), (45, .string (x3_1 ++ (strOfNums y165))), (49, .string ((x3_1 ++ (strOfNums y165)) ++ t168)), (53, .string (((x3_1 ++ (strOfNums y165)) ++ t168) ++ t169))]) (fun s_ w' => (w'.cell? ⟨gb159, 0, none⟩ = some (.int .i64 ((rd_T98 l0 x4_1).f0)) ∧ w'.cell? ⟨gb159, 1, none⟩ = some (.bool ((rd_T98 l0 x4_1).f1)) ∧ w'.cell? ⟨gb159, 2, none⟩ = some (.bool ((rd_T98 l0 x4_1).f2)) ∧ w'.cell? ⟨gb159, 3, none⟩ = some (.bool ((rd_T98 l0 x4_1).f3)) ∧ w'.cell? ⟨gb159, 4, none⟩ = some (.bool ((rd_T98 l0 x4_1).f4)) ∧ w'.cell? ⟨gb159, 5, none⟩ = some (.bool ((rd_T98 l0 x4_1).f5)) ∧ w'.cell? ⟨gb159, 6, none⟩ = some (.int .i64 ((rd_T98 l0 x4_1).f6)) ∧ w'.cell? ⟨gb159, 7, none⟩ = some (.int .i64 ((rd_T98 l0 x4_1).f7)) ∧ w'.cell? ⟨gb159, 8, none⟩ = some (.int .i64 ((rd_T98 l0 x4_1).f8))) ∧ (Kd.R (Kd.int .u8) 5 w' w.heap.size (fun _ => True) s_ y165) ∧ (w'.heap[gb159]? = some (.cells #[.int .i64 ((rd_T98 l0 x4_1).f0), .bool ((rd_T98 l0 x4_1).f1), .bool ((rd_T98 l0 x4_1).f2), .bool ((rd_T98 l0 x4_1).f3), .bool ((rd_T98 l0 x4_1).f4), .bool ((rd_T98 l0 x4_1).f5), .int .i64 ((rd_T98 l0 x4_1).f6), .int .i64 ((rd_T98 l0 x4_1).f7), .int .i64 ((rd_T98 l0 x4_1).f8)] 98 (0, 0))) ∧ (Below w.heap.size w w')) ?_ ?_
                  rotate_left
                  · intro hJ7_8_12_16_20
                    refine join_ (σ := Value) 3 #[true, true, true, true, true, true, true, true, true, true, true, true, true, true, true, true, true, true, true, true, false, false, false] (fun s_ => [(43, s_), (44, .string (strOfNums y165)), (48, .string t168), (52, .string t169), (45, .string (x3_1 ++ (strOfNums y165))), (49, .string ((x3_1 ++ (strOfNums y165)) ++ t168)), (53, .string (((x3_1 ++ (strOfNums y165)) ++ t168) ++ t169))]) (fun s_ w' => (w'.cell? ⟨gb159, 0, none⟩ = some (.int .i64 ((rd_T98 l0 x4_1).f0)) ∧ w'.cell? ⟨gb159, 1, none⟩ = some (.bool ((rd_T98 l0 x4_1).f1)) ∧ w'.cell? ⟨gb159, 2, none⟩ = some (.bool ((rd_T98 l0 x4_1).f2)) ∧ w'.cell? ⟨gb159, 3, none⟩ = some (.bool ((rd_T98 l0 x4_1).f3)) ∧ w'.cell? ⟨gb159, 4, none⟩ = some (.bool ((rd_T98 l0 x4_1).f4)) ∧ w'.cell? ⟨gb159, 5, none⟩ = some (.bool ((rd_T98 l0 x4_1).f5)) ∧ w'.cell? ⟨gb159, 6, none⟩ = some (.int .i64 ((rd_T98 l0 x4_1).f6)) ∧ w'.cell? ⟨gb159, 7, none⟩ = some (.int .i64 ((rd_T98 l0 x4_1).f7)) ∧ w'.cell? ⟨gb159, 8, none⟩ = some (.int .i64 ((rd_T98 l0 x4_1).f8))) ∧ (Kd.R (Kd.int .u8) 5 w' w.heap.size (fun _ => True) s_ y165) ∧ (w'.heap[gb159]? = some (.cells #[.int .i64 ((rd_T98 l0 x4_1).f0), .bool ((rd_T98 l0 x4_1).f1), .bool ((rd_T98 l0 x4_1).f2), .bool ((rd_T98 l0 x4_1).f3), .bool ((rd_T98 l0 x4_1).f4), .bool ((rd_T98 l0 x4_1).f5), .int .i64 ((rd_T98 l0 x4_1).f6), .int .i64 ((rd_T98 l0 x4_1).f7), .int .i64 ((rd_T98 l0 x4_1).f8)] 98 (0, 0))) ∧ (Below w.heap.size w w')) ?_ ?_
                    rotate_left
                    · intro hJ7_8_12_16
                      refine join_ (σ := Value) 6 #[true, true, true, true, true, true, true, true, false, false, true, true, true, false, true, true, true, false, true, true, true, false, false] (fun s_ => [(43, s_), (48, .string t168), (52, .string t169), (56, .string t170)]) (fun s_ w' => (w'.cell? ⟨gb159, 0, none⟩ = some (.int .i64 ((rd_T98 l0 x4_1).f0)) ∧ w'.cell? ⟨gb159, 1, none⟩ = some (.bool ((rd_T98 l0 x4_1).f1)) ∧ w'.cell? ⟨gb159, 2, none⟩ = some (.bool ((rd_T98 l0 x4_1).f2)) ∧ w'.cell? ⟨gb159, 3, none⟩ = some (.bool ((rd_T98 l0 x4_1).f3)) ∧ w'.cell? ⟨gb159, 4, none⟩ = some (.bool ((rd_T98 l0 x4_1).f4)) ∧ w'.cell? ⟨gb159, 5, none⟩ = some (.bool ((rd_T98 l0 x4_1).f5)) ∧ w'.cell? ⟨gb159, 6, none⟩ = some (.int .i64 ((rd_T98 l0 x4_1).f6)) ∧ w'.cell? ⟨gb159, 7, none⟩ = some (.int .i64 ((rd_T98 l0 x4_1).f7)) ∧ w'.cell? ⟨gb159, 8, none⟩ = some (.int .i64 ((rd_T98 l0 x4_1).f8))) ∧ (Kd.R (Kd.int .u8) 5 w' w.heap.size (fun _ => True) s_ y165) ∧ (w'.heap[gb159]? = some (.cells #[.int .i64 ((rd_T98 l0 x4_1).f0), .bool ((rd_T98 l0 x4_1).f1), .bool ((rd_T98 l0 x4_1).f2), .bool ((rd_T98 l0 x4_1).f3), .bool ((rd_T98 l0 x4_1).f4), .bool ((rd_T98 l0 x4_1).f5), .int .i64 ((rd_T98 l0 x4_1).f6), .int .i64 ((rd_T98 l0 x4_1).f7), .int .i64 ((rd_T98 l0 x4_1).f8)] 98 (0, 0))) ∧ (Below w.heap.size w w')) ?_ ?_
                      rotate_left
                      · intro hJ7_12_16_20
                        refine join_ (σ := Value) 5 #[true, true, true, true, true, true, true, true, true, true, true, true, true, true, true, true, false, false, true, true, false, false, false] (fun s_ => [(43, s_), (44, .string (strOfNums y165)), (48, .string t168), (45, .string (x3_1 ++ (strOfNums y165))), (49, .string ((x3_1 ++ (strOfNums y165)) ++ t168))]) (fun s_ w' => (w'.cell? ⟨gb159, 0, none⟩ = some (.int .i64 ((rd_T98 l0 x4_1).f0)) ∧ w'.cell? ⟨gb159, 1, none⟩ = some (.bool ((rd_T98 l0 x4_1).f1)) ∧ w'.cell? ⟨gb159, 2, none⟩ = some (.bool ((rd_T98 l0 x4_1).f2)) ∧ w'.cell? ⟨gb159, 3, none⟩ = some (.bool ((rd_T98 l0 x4_1).f3)) ∧ w'.cell? ⟨gb159, 4, none⟩ = some (.bool ((rd_T98 l0 x4_1).f4)) ∧ w'.cell? ⟨gb159, 5, none⟩ = some (.bool ((rd_T98 l0 x4_1).f5)) ∧ w'.cell? ⟨gb159, 6, none⟩ = some (.int .i64 ((rd_T98 l0 x4_1).f6)) ∧ w'.cell? ⟨gb159, 7, none⟩ = some (.int .i64 ((rd_T98 l0 x4_1).f7)) ∧ w'.cell? ⟨gb159, 8, none⟩ = some (.int .i64 ((rd_T98 l0 x4_1).f8))) ∧ (Kd.R (Kd.int .u8) 5 w' w.heap.size (fun _ => True) s_ y165) ∧ (w'.heap[gb159]? = some (.cells #[.int .i64 ((rd_T98 l0 x4_1).f0), .bool ((rd_T98 l0 x4_1).f1), .bool ((rd_T98 l0 x4_1).f2), .bool ((rd_T98 l0 x4_1).f3), .bool ((rd_T98 l0 x4_1).f4), .bool ((rd_T98 l0 x4_1).f5), .int .i64 ((rd_T98 l0 x4_1).f6), .int .i64 ((rd_T98 l0 x4_1).f7), .int .i64 ((rd_T98 l0 x4_1).f8)] 98 (0, 0))) ∧ (Below w.heap.size w w')) ?_ ?_
                        rotate_left
                        · intro hJ7_8_12
                          refine join_ (σ := Value) 7 #[true, true, true, true, true, true, true, true, false, false, true, true, true, false, true, true, true, false, true, true, false, false, false] (fun s_ => [(43, s_), (48, .string t168), (52, .string t169)]) (fun s_ w' => (w'.cell? ⟨gb159, 0, none⟩ = some (.int .i64 ((rd_T98 l0 x4_1).f0)) ∧ w'.cell? ⟨gb159, 1, none⟩ = some (.bool ((rd_T98 l0 x4_1).f1)) ∧ w'.cell? ⟨gb159, 2, none⟩ = some (.bool ((rd_T98 l0 x4_1).f2)) ∧ w'.cell? ⟨gb159, 3, none⟩ = some (.bool ((rd_T98 l0 x4_1).f3)) ∧ w'.cell? ⟨gb159, 4, none⟩ = some (.bool ((rd_T98 l0 x4_1).f4)) ∧ w'.cell? ⟨gb159, 5, none⟩ = some (.bool ((rd_T98 l0 x4_1).f5)) ∧ w'.cell? ⟨gb159, 6, none⟩ = some (.int .i64 ((rd_T98 l0 x4_1).f6)) ∧ w'.cell? ⟨gb159, 7, none⟩ = some (.int .i64 ((rd_T98 l0 x4_1).f7)) ∧ w'.cell? ⟨gb159, 8, none⟩ = some (.int .i64 ((rd_T98 l0 x4_1).f8))) ∧ (Kd.R (Kd.int .u8) 5 w' w.heap.size (fun _ => True) s_ y165) ∧ (w'.heap[gb159]? = some (.cells #[.int .i64 ((rd_T98 l0 x4_1).f0), .bool ((rd_T98 l0 x4_1).f1), .bool ((rd_T98 l0 x4_1).f2), .bool ((rd_T98 l0 x4_1).f3), .bool ((rd_T98 l0 x4_1).f4), .bool ((rd_T98 l0 x4_1).f5), .int .i64 ((rd_T98 l0 x4_1).f6), .int .i64 ((rd_T98 l0 x4_1).f7), .int .i64 ((rd_T98 l0 x4_1).f8)] 98 (0, 0))) ∧ (Below w.heap.size w w')) ?_ ?_
                          rotate_left
                          · intro hJ7_12_16
                            refine join_ (σ := Unit) 7 #[true, true, true, true, true, true, true, false, false, false, true, true, true, false, true, true, true, false, true, true, true, false, false] (fun s_ => [(48, .string t168), (52, .string t169), (56, .string t170)]) (fun s_ w' => (w'.cell? ⟨gb159, 0, none⟩ = some (.int .i64 ((rd_T98 l0 x4_1).f0)) ∧ w'.cell? ⟨gb159, 1, none⟩ = some (.bool ((rd_T98 l0 x4_1).f1)) ∧ w'.cell? ⟨gb159, 2, none⟩ = some (.bool ((rd_T98 l0 x4_1).f2)) ∧ w'.cell? ⟨gb159, 3, none⟩ = some (.bool ((rd_T98 l0 x4_1).f3)) ∧ w'.cell? ⟨gb159, 4, none⟩ = some (.bool ((rd_T98 l0 x4_1).f4)) ∧ w'.cell? ⟨gb159, 5, none⟩ = some (.bool ((rd_T98 l0 x4_1).f5)) ∧ w'.cell? ⟨gb159, 6, none⟩ = some (.int .i64 ((rd_T98 l0 x4_1).f6)) ∧ w'.cell? ⟨gb159, 7, none⟩ = some (.int .i64 ((rd_T98 l0 x4_1).f7)) ∧ w'.cell? ⟨gb159, 8, none⟩ = some (.int .i64 ((rd_T98 l0 x4_1).f8))) ∧ (w'.heap[gb159]? = some (.cells #[.int .i64 ((rd_T98 l0 x4_1).f0), .bool ((rd_T98 l0 x4_1).f1), .bool ((rd_T98 l0 x4_1).f2), .bool ((rd_T98 l0 x4_1).f3), .bool ((rd_T98 l0 x4_1).f4), .bool ((rd_T98 l0 x4_1).f5), .int .i64 ((rd_T98 l0 x4_1).f6), .int .i64 ((rd_T98 l0 x4_1).f7), .int .i64 ((rd_T98 l0 x4_1).f8)] 98 (0, 0))) ∧ (Below w.heap.size w w')) ?_ ?_
                            rotate_left
                            · intro hJ12_16_20
                              refine join_ (σ := Value) 7 #[true, true, true, true, true, true, true, true, true, true, true, true, false, false, true, true, false, false, true, true, false, false, false] (fun s_ => [(43, s_), (44, .string (strOfNums y165)), (45, .string (x3_1 ++ (strOfNums y165)))]) (fun s_ w' => (w'.cell? ⟨gb159, 0, none⟩ = some (.int .i64 ((rd_T98 l0 x4_1).f0)) ∧ w'.cell? ⟨gb159, 1, none⟩ = some (.bool ((rd_T98 l0 x4_1).f1)) ∧ w'.cell? ⟨gb159, 2, none⟩ = some (.bool ((rd_T98 l0 x4_1).f2)) ∧ w'.cell? ⟨gb159, 3, none⟩ = some (.bool ((rd_T98 l0 x4_1).f3)) ∧ w'.cell? ⟨gb159, 4, none⟩ = some (.bool ((rd_T98 l0 x4_1).f4)) ∧ w'.cell? ⟨gb159, 5, none⟩ = some (.bool ((rd_T98 l0 x4_1).f5)) ∧ w'.cell? ⟨gb159, 6, none⟩ = some (.int .i64 ((rd_T98 l0 x4_1).f6)) ∧ w'.cell? ⟨gb159, 7, none⟩ = some (.int .i64 ((rd_T98 l0 x4_1).f7)) ∧ w'.cell? ⟨gb159, 8, none⟩ = some (.int .i64 ((rd_T98 l0 x4_1).f8))) ∧ (Kd.R (Kd.int .u8) 5 w' w.heap.size (fun _ => True) s_ y165) ∧ (w'.heap[gb159]? = some (.cells #[.int .i64 ((rd_T98 l0 x4_1).f0), .bool ((rd_T98 l0 x4_1).f1), .bool ((rd_T98 l0 x4_1).f2), .bool ((rd_T98 l0 x4_1).f3), .bool ((rd_T98 l0 x4_1).f4), .bool ((rd_T98 l0 x4_1).f5), .int .i64 ((rd_T98 l0 x4_1).f6), .int .i64 ((rd_T98 l0 x4_1).f7), .int .i64 ((rd_T98 l0 x4_1).f8)] 98 (0, 0))) ∧ (Below w.heap.size w w')) ?_ ?_
                              rotate_left
                              · intro hJ7_8
                                refine join_ (σ := Value) 8 #[true, true, true, true, true, true, true, true, false, false, true, true, true, false, true, true, false, false, true, true, false, false, false] (fun s_ => [(43, s_), (48, .string t168)]) (fun s_ w' => (w'.cell? ⟨gb159, 0, none⟩ = some (.int .i64 ((rd_T98 l0 x4_1).f0)) ∧ w'.cell? ⟨gb159, 1, none⟩ = some (.bool ((rd_T98 l0 x4_1).f1)) ∧ w'.cell? ⟨gb159, 2, none⟩ = some (.bool ((rd_T98 l0 x4_1).f2)) ∧ w'.cell? ⟨gb159, 3, none⟩ = some (.bool ((rd_T98 l0 x4_1).f3)) ∧ w'.cell? ⟨gb159, 4, none⟩ = some (.bool ((rd_T98 l0 x4_1).f4)) ∧ w'.cell? ⟨gb159, 5, none⟩ = some (.bool ((rd_T98 l0 x4_1).f5)) ∧ w'.cell? ⟨gb159, 6, none⟩ = some (.int .i64 ((rd_T98 l0 x4_1).f6)) ∧ w'.cell? ⟨gb159, 7, none⟩ = some (.int .i64 ((rd_T98 l0 x4_1).f7)) ∧ w'.cell? ⟨gb159, 8, none⟩ = some (.int .i64 ((rd_T98 l0 x4_1).f8))) ∧ (Kd.R (Kd.int .u8) 5 w' w.heap.size (fun _ => True) s_ y165) ∧ (w'.heap[gb159]? = some (.cells #[.int .i64 ((rd_T98 l0 x4_1).f0), .bool ((rd_T98 l0 x4_1).f1), .bool ((rd_T98 l0 x4_1).f2), .bool ((rd_T98 l0 x4_1).f3), .bool ((rd_T98 l0 x4_1).f4), .bool ((rd_T98 l0 x4_1).f5), .int .i64 ((rd_T98 l0 x4_1).f6), .int .i64 ((rd_T98 l0 x4_1).f7), .int .i64 ((rd_T98 l0 x4_1).f8)] 98 (0, 0))) ∧ (Below w.heap.size w w')) ?_ ?_
                                rotate_left
                                · intro hJ7_12
                                  refine join_ (σ := Unit) 8 #[true, true, true, true, true, true, true, false, false, false, true, true, true, false, true, true, true, false, true, true, false, false, false] (fun s_ => [(48, .string t168), (52, .string t169)]) (fun s_ w' => (w'.cell? ⟨gb159, 0, none⟩ = some (.int .i64 ((rd_T98 l0 x4_1).f0)) ∧ w'.cell? ⟨gb159, 1, none⟩ = some (.bool ((rd_T98 l0 x4_1).f1)) ∧ w'.cell? ⟨gb159, 2, none⟩ = some (.bool ((rd_T98 l0 x4_1).f2)) ∧ w'.cell? ⟨gb159, 3, none⟩ = some (.bool ((rd_T98 l0 x4_1).f3)) ∧ w'.cell? ⟨gb159, 4, none⟩ = some (.bool ((rd_T98 l0 x4_1).f4)) ∧ w'.cell? ⟨gb159, 5, none⟩ = some (.bool ((rd_T98 l0 x4_1).f5)) ∧ w'.cell? ⟨gb159, 6, none⟩ = some (.int .i64 ((rd_T98 l0 x4_1).f6)) ∧ w'.cell? ⟨gb159, 7, none⟩ = some (.int .i64 ((rd_T98 l0 x4_1).f7)) ∧ w'.cell? ⟨gb159, 8, none⟩ = some (.int .i64 ((rd_T98 l0 x4_1).f8))) ∧ (w'.heap[gb159]? = some (.cells #[.int .i64 ((rd_T98 l0 x4_1).f0), .bool ((rd_T98 l0 x4_1).f1), .bool ((rd_T98 l0 x4_1).f2), .bool ((rd_T98 l0 x4_1).f3), .bool ((rd_T98 l0 x4_1).f4), .bool ((rd_T98 l0 x4_1).f5), .int .i64 ((rd_T98 l0 x4_1).f6), .int .i64 ((rd_T98 l0 x4_1).f7), .int .i64 ((rd_T98 l0 x4_1).f8)] 98 (0, 0))) ∧ (Below w.heap.size w w')) ?_ ?_
                                  rotate_left
                                  · intro hJ12_16
                                    refine join_ (σ := Value) 9 #[true, true, true, true, true, true, true, true, false, false, true, true, false, false, true, true, false, false, true, true, false, false, false] (fun s_ => [(43, s_)]) (fun s_ w' => (w'.cell? ⟨gb159, 0, none⟩ = some (.int .i64 ((rd_T98 l0 x4_1).f0)) ∧ w'.cell? ⟨gb159, 1, none⟩ = some (.bool ((rd_T98 l0 x4_1).f1)) ∧ w'.cell? ⟨gb159, 2, none⟩ = some (.bool ((rd_T98 l0 x4_1).f2)) ∧ w'.cell? ⟨gb159, 3, none⟩ = some (.bool ((rd_T98 l0 x4_1).f3)) ∧ w'.cell? ⟨gb159, 4, none⟩ = some (.bool ((rd_T98 l0 x4_1).f4)) ∧ w'.cell? ⟨gb159, 5, none⟩ = some (.bool ((rd_T98 l0 x4_1).f5)) ∧ w'.cell? ⟨gb159, 6, none⟩ = some (.int .i64 ((rd_T98 l0 x4_1).f6)) ∧ w'.cell? ⟨gb159, 7, none⟩ = some (.int .i64 ((rd_T98 l0 x4_1).f7)) ∧ w'.cell? ⟨gb159, 8, none⟩ = some (.int .i64 ((rd_T98 l0 x4_1).f8))) ∧ (Kd.R (Kd.int .u8) 5 w' w.heap.size (fun _ => True) s_ y165) ∧ (w'.heap[gb159]? = some (.cells #[.int .i64 ((rd_T98 l0 x4_1).f0), .bool ((rd_T98 l0 x4_1).f1), .bool ((rd_T98 l0 x4_1).f2), .bool ((rd_T98 l0 x4_1).f3), .bool ((rd_T98 l0 x4_1).f4), .bool ((rd_T98 l0 x4_1).f5), .int .i64 ((rd_T98 l0 x4_1).f6), .int .i64 ((rd_T98 l0 x4_1).f7), .int .i64 ((rd_T98 l0 x4_1).f8)] 98 (0, 0))) ∧ (Below w.heap.size w w')) ?_ ?_
                                    rotate_left
                                    · intro hJ7
                                      refine join_ (σ := Unit) 9 #[true, true, true, true, true, true, true, false, false, false, true, true, true, false, true, true, false, false, true, true, false, false, false] (fun s_ => [(48, .string t168)]) (fun s_ w' => (w'.cell? ⟨gb159, 0, none⟩ = some (.int .i64 ((rd_T98 l0 x4_1).f0)) ∧ w'.cell? ⟨gb159, 1, none⟩ = some (.bool ((rd_T98 l0 x4_1).f1)) ∧ w'.cell? ⟨gb159, 2, none⟩ = some (.bool ((rd_T98 l0 x4_1).f2)) ∧ w'.cell? ⟨gb159, 3, none⟩ = some (.bool ((rd_T98 l0 x4_1).f3)) ∧ w'.cell? ⟨gb159, 4, none⟩ = some (.bool ((rd_T98 l0 x4_1).f4)) ∧ w'.cell? ⟨gb159, 5, none⟩ = some (.bool ((rd_T98 l0 x4_1).f5)) ∧ w'.cell? ⟨gb159, 6, none⟩ = some (.int .i64 ((rd_T98 l0 x4_1).f6)) ∧ w'.cell? ⟨gb159, 7, none⟩ = some (.int .i64 ((rd_T98 l0 x4_1).f7)) ∧ w'.cell? ⟨gb159, 8, none⟩ = some (.int .i64 ((rd_T98 l0 x4_1).f8))) ∧ (w'.heap[gb159]? = some (.cells #[.int .i64 ((rd_T98 l0 x4_1).f0), .bool ((rd_T98 l0 x4_1).f1), .bool ((rd_T98 l0 x4_1).f2), .bool ((rd_T98 l0 x4_1).f3), .bool ((rd_T98 l0 x4_1).f4), .bool ((rd_T98 l0 x4_1).f5), .int .i64 ((rd_T98 l0 x4_1).f6), .int .i64 ((rd_T98 l0 x4_1).f7), .int .i64 ((rd_T98 l0 x4_1).f8)] 98 (0, 0))) ∧ (Below w.heap.size w w')) ?_ ?_
                                      rotate_left
                                      · intro hJ12
                                        refine two_ (i := 7) (j := 12) (Ni := some 43) (Nj := some 48) #[true, true, true, true, true, true, true, true, false, false, true, true, false, false, true, true, false, false, true, true, false, false, false] #[true, true, true, true, true, true, true, false, false, false, true, true, true, false, true, true, false, false, true, true, false, false, false] rfl rfl rfl rfl (two_of HT_.out (by kernel_rfl)) (by decide) (by decide) (fun K hK => ?_) (fun K hK => ?_)
                                        · skip
                                          refine Kd.R_lit_step (Kd.int .u8) _ 5 ?hg (N := 43) ?hd (xs := ([(Int.tmod (IntKind.u64.wrap ((rd_T98 l0 x4_1).f0)) 256) % 256, (((((((t160 + t161) % 256) + t162) % 256) + t163) % 256) + t164) % 256, 0, 0] : List Int)) (inner := [.int .u8 ((Int.tmod (IntKind.u64.wrap ((rd_T98 l0 x4_1).f0)) 256) % 256), .int .u8 ((((((((t160 + t161) % 256) + t162) % 256) + t163) % 256) + t164) % 256), .int .u8 0, .int .u8 0]) (ok := fun _ => True) (okp := fun _ => True) ?hr ?hp (fun _ hk => hk) trivial (Below.refl _ _) (Nat.le_refl _) (by simp) ?_; (case hd => rfl); (case hg => rfl); (case hr => first | (go_simp; done) | (go_simp; rfl) | (go_simp; simp only [IntKind.wrap_u8]; first | rfl | (simp; done))); (case hp => exact (Reps.one (show Kd.M (Kd.int .u8) _ _ _ ((Int.tmod (IntKind.u64.wrap ((rd_T98 l0 x4_1).f0)) 256) % 256) [.int .u8 ((Int.tmod (IntKind.u64.wrap ((rd_T98 l0 x4_1).f0)) 256) % 256)] from rfl) (Reps.one (show Kd.M (Kd.int .u8) _ _ _ ((((((((t160 + t161) % 256) + t162) % 256) + t163) % 256) + t164) % 256) [.int .u8 ((((((((t160 + t161) % 256) + t162) % 256) + t163) % 256) + t164) % 256)] from rfl) (Reps.one (show Kd.M (Kd.int .u8) _ _ _ 0 [.int .u8 0] from rfl) (Reps.one (show Kd.M (Kd.int .u8) _ _ _ 0 [.int .u8 0] from rfl) (Reps.none _ _))))))
                                          intro v166 w21 ho22 hb hg_ hnew_
                                          clear hg_ hnew_
                                          (first | rw [← Ny165.out] at ho22 | (simp only [Int.reduceToNat] at ho22; rw [← Ny165.out] at ho22))
                                          have n0_ := Aside0.mk (Kd.R_lower ho22 (below_size (by repeat (first | (with_reducible first | exact HB.out | apply below_alloc | apply pw_below_drewN | apply below_drew1 | refine below_set ?_ GE159.out) | exact HB.out))))
                                          have n1_ := Aside0.mk (blk_below (g := gb159) (o := .cells #[.int .i64 ((rd_T98 l0 x4_1).f0), .bool ((rd_T98 l0 x4_1).f1), .bool ((rd_T98 l0 x4_1).f2), .bool ((rd_T98 l0 x4_1).f3), .bool ((rd_T98 l0 x4_1).f4), .bool ((rd_T98 l0 x4_1).f5), .int .i64 ((rd_T98 l0 x4_1).f6), .int .i64 ((rd_T98 l0 x4_1).f7), .int .i64 ((rd_T98 l0 x4_1).f8)] 98 (0, 0)) (by (with_reducible repeat (first | refine blk_drewN ?_ _ | refine blk_drew ?_ | refine blk_alloc ?_ _)); exact BK159.out) hb)
                                          have n2_ := Aside0.mk (below_step (by repeat (first | (with_reducible first | exact HB.out | apply below_alloc | apply pw_below_drewN | apply below_drew1 | refine below_set ?_ GE159.out) | exact HB.out)) hb)
                                          clear BK159
                                          clear HB
                                          have HO167 := n0_
                                          have BK159 := n1_
                                          have HB := n2_
                                          clear n0_ n1_ n2_
                                          clear hb ho22
                                          refine hK.out _ _ ⟨(blk_cell BK159.out 0).trans rfl, (blk_cell BK159.out 1).trans rfl, (blk_cell BK159.out 2).trans rfl, (blk_cell BK159.out 3).trans rfl, (blk_cell BK159.out 4).trans rfl, (blk_cell BK159.out 5).trans rfl, (blk_cell BK159.out 6).trans rfl, (blk_cell BK159.out 7).trans rfl, (blk_cell BK159.out 8).trans rfl⟩ (fun hHeld => ?_)
                                          clear hK K
                                          refine norm_ (a' := ?_) ?_ ?_
                                          rotate_left
                                          · show Act.put _ (some 43) _ = _
                                            simp only [Act.put, List.setIfInBounds_toArray, List.set_cons_zero, List.set_cons_succ, i64_w, i32_w]
                                            rfl
                                          exact norm_ (by first | (simp only [putAll, Act.put, List.setIfInBounds_toArray, List.set_cons_zero, List.set_cons_succ]; done) | (simp only [putAll, Act.put, List.setIfInBounds_toArray, List.set_cons_zero, List.set_cons_succ]; rfl)) (hJ7 (v166) _ ⟨hHeld, (by (with_reducible repeat (first | apply Kd.R_alloc | apply Kd.R_drewN | apply Kd.R_drew)); exact HO167.out), (by (with_reducible repeat (first | refine blk_drewN ?_ _ | refine blk_drew ?_ | refine blk_alloc ?_ _)); exact BK159.out), (by repeat (first | (with_reducible first | exact HB.out | apply below_alloc | apply pw_below_drewN | apply below_drew1 | refine below_set ?_ GE159.out) | exact HB.out))⟩)
                                        · skip
                                          refine goes_ Try.func56 (by kernel_rfl) rfl #[.int .i64 ((rd_T98 l0 x4_1).f6)] (by rfl) rfl rfl (by (try simp only [List.map_toArray, List.map_cons, List.map_nil]); first | done | rfl | (simp only [List.length_drop, List.length_take]; rfl)) ?_
                                          with_reducible refine (aneroidref21_number.calls k1 ((rd_T98 l0 x4_1).f6) t168 _ A10.out).mono ?_
                                          rintro e w21 ⟨rfl, hb⟩
                                          refine ⟨_, rfl, ?_⟩
                                          have n0_ := Aside0.mk (blk_below (g := gb159) (o := .cells #[.int .i64 ((rd_T98 l0 x4_1).f0), .bool ((rd_T98 l0 x4_1).f1), .bool ((rd_T98 l0 x4_1).f2), .bool ((rd_T98 l0 x4_1).f3), .bool ((rd_T98 l0 x4_1).f4), .bool ((rd_T98 l0 x4_1).f5), .int .i64 ((rd_T98 l0 x4_1).f6), .int .i64 ((rd_T98 l0 x4_1).f7), .int .i64 ((rd_T98 l0 x4_1).f8)] 98 (0, 0)) (by (with_reducible repeat (first | refine blk_drewN ?_ _ | refine blk_drew ?_ | refine blk_alloc ?_ _)); exact BK159.out) hb)
                                          have n1_ := Aside0.mk (below_step (by repeat (first | (with_reducible first | exact HB.out | apply below_alloc | apply pw_below_drewN | apply below_drew1 | refine below_set ?_ GE159.out) | exact HB.out)) hb)
                                          clear BK159
                                          clear HB
                                          have BK159 := n0_
                                          have HB := n1_
                                          clear n0_ n1_
                                          (try clear hb)
                                          (try clear hb2)
                                          (try clear hk)
                                          (try clear hi)
                                          refine hK.out _ _ ⟨(blk_cell BK159.out 0).trans rfl, (blk_cell BK159.out 1).trans rfl, (blk_cell BK159.out 2).trans rfl, (blk_cell BK159.out 3).trans rfl, (blk_cell BK159.out 4).trans rfl, (blk_cell BK159.out 5).trans rfl, (blk_cell BK159.out 6).trans rfl, (blk_cell BK159.out 7).trans rfl, (blk_cell BK159.out 8).trans rfl⟩ (fun hHeld => ?_)
                                          clear hK K
                                          refine norm_ (a' := ?_) ?_ ?_
                                          rotate_left
                                          · show Act.put _ (some 48) _ = _
                                            simp only [Act.put, List.setIfInBounds_toArray, List.set_cons_zero, List.set_cons_succ, i64_w, i32_w]
                                            rfl
                                          exact norm_ (by first | (simp only [putAll, Act.put, List.setIfInBounds_toArray, List.set_cons_zero, List.set_cons_succ]; done) | (simp only [putAll, Act.put, List.setIfInBounds_toArray, List.set_cons_zero, List.set_cons_succ]; rfl)) (hJ12 () _ ⟨hHeld, (by (with_reducible repeat (first | refine blk_drewN ?_ _ | refine blk_drew ?_ | refine blk_alloc ?_ _)); exact BK159.out), (by repeat (first | (with_reducible first | exact HB.out | apply below_alloc | apply pw_below_drewN | apply below_drew1 | refine below_set ?_ GE159.out) | exact HB.out))⟩)
                                      · skip
                                        rintro _ w22 ⟨hS_, h0_, h1_⟩
                                        have n0_ : Aside0 (w22.heap[gb159]? = some (.cells #[.int .i64 ((rd_T98 l0 x4_1).f0), .bool ((rd_T98 l0 x4_1).f1), .bool ((rd_T98 l0 x4_1).f2), .bool ((rd_T98 l0 x4_1).f3), .bool ((rd_T98 l0 x4_1).f4), .bool ((rd_T98 l0 x4_1).f5), .int .i64 ((rd_T98 l0 x4_1).f6), .int .i64 ((rd_T98 l0 x4_1).f7), .int .i64 ((rd_T98 l0 x4_1).f8)] 98 (0, 0))) := ⟨h0_⟩
                                        have n1_ : Aside0 (Below w.heap.size w w22) := ⟨h1_⟩
                                        clear BK159
                                        clear HB
                                        clear h0_ h1_
                                        have BK159 := n0_
                                        have HB := n1_
                                        clear n0_ n1_
                                        have hHeld : w22.cell? ⟨gb159, 0, none⟩ = some (.int .i64 ((rd_T98 l0 x4_1).f0)) ∧ w22.cell? ⟨gb159, 1, none⟩ = some (.bool ((rd_T98 l0 x4_1).f1)) ∧ w22.cell? ⟨gb159, 2, none⟩ = some (.bool ((rd_T98 l0 x4_1).f2)) ∧ w22.cell? ⟨gb159, 3, none⟩ = some (.bool ((rd_T98 l0 x4_1).f3)) ∧ w22.cell? ⟨gb159, 4, none⟩ = some (.bool ((rd_T98 l0 x4_1).f4)) ∧ w22.cell? ⟨gb159, 5, none⟩ = some (.bool ((rd_T98 l0 x4_1).f5)) ∧ w22.cell? ⟨gb159, 6, none⟩ = some (.int .i64 ((rd_T98 l0 x4_1).f6)) ∧ w22.cell? ⟨gb159, 7, none⟩ = some (.int .i64 ((rd_T98 l0 x4_1).f7)) ∧ w22.cell? ⟨gb159, 8, none⟩ = some (.int .i64 ((rd_T98 l0 x4_1).f8)) := hS_
                                        refine norm_ (a' := ?_) ?_ ?_
                                        rotate_left
                                        · simp only [putAll, Act.put, List.setIfInBounds_toArray, List.set_cons_zero, List.set_cons_succ]
                                          rfl
                                        refine two_ (i := 7) (j := 16) (Ni := some 43) (Nj := some 52) #[true, true, true, true, true, true, true, true, false, false, true, true, true, false, true, true, false, false, true, true, false, false, false] #[true, true, true, true, true, true, true, false, false, false, true, true, true, false, true, true, true, false, true, true, false, false, false] rfl rfl rfl rfl (two_of HT_.out (by kernel_rfl)) (by decide) (by decide) (fun K hK => ?_) (fun K hK => ?_)
                                        · skip
                                          refine Kd.R_lit_step (Kd.int .u8) _ 5 ?hg (N := 43) ?hd (xs := ([(Int.tmod (IntKind.u64.wrap ((rd_T98 l0 x4_1).f0)) 256) % 256, (((((((t160 + t161) % 256) + t162) % 256) + t163) % 256) + t164) % 256, 0, 0] : List Int)) (inner := [.int .u8 ((Int.tmod (IntKind.u64.wrap ((rd_T98 l0 x4_1).f0)) 256) % 256), .int .u8 ((((((((t160 + t161) % 256) + t162) % 256) + t163) % 256) + t164) % 256), .int .u8 0, .int .u8 0]) (ok := fun _ => True) (okp := fun _ => True) ?hr ?hp (fun _ hk => hk) trivial (Below.refl _ _) (Nat.le_refl _) (by simp) ?_; (case hd => rfl); (case hg => rfl); (case hr => first | (go_simp; done) | (go_simp; rfl) | (go_simp; simp only [IntKind.wrap_u8]; first | rfl | (simp; done))); (case hp => exact (Reps.one (show Kd.M (Kd.int .u8) _ _ _ ((Int.tmod (IntKind.u64.wrap ((rd_T98 l0 x4_1).f0)) 256) % 256) [.int .u8 ((Int.tmod (IntKind.u64.wrap ((rd_T98 l0 x4_1).f0)) 256) % 256)] from rfl) (Reps.one (show Kd.M (Kd.int .u8) _ _ _ ((((((((t160 + t161) % 256) + t162) % 256) + t163) % 256) + t164) % 256) [.int .u8 ((((((((t160 + t161) % 256) + t162) % 256) + t163) % 256) + t164) % 256)] from rfl) (Reps.one (show Kd.M (Kd.int .u8) _ _ _ 0 [.int .u8 0] from rfl) (Reps.one (show Kd.M (Kd.int .u8) _ _ _ 0 [.int .u8 0] from rfl) (Reps.none _ _))))))
                                          intro v166 w23 ho24 hb hg_ hnew_
                                          clear hg_ hnew_
                                          (first | rw [← Ny165.out] at ho24 | (simp only [Int.reduceToNat] at ho24; rw [← Ny165.out] at ho24))
                                          have n0_ := Aside0.mk (Kd.R_lower ho24 (below_size (by repeat (first | (with_reducible first | exact HB.out | apply below_alloc | apply pw_below_drewN | apply below_drew1 | refine below_set ?_ GE159.out) | exact HB.out))))
                                          have n1_ := Aside0.mk (blk_below (g := gb159) (o := .cells #[.int .i64 ((rd_T98 l0 x4_1).f0), .bool ((rd_T98 l0 x4_1).f1), .bool ((rd_T98 l0 x4_1).f2), .bool ((rd_T98 l0 x4_1).f3), .bool ((rd_T98 l0 x4_1).f4), .bool ((rd_T98 l0 x4_1).f5), .int .i64 ((rd_T98 l0 x4_1).f6), .int .i64 ((rd_T98 l0 x4_1).f7), .int .i64 ((rd_T98 l0 x4_1).f8)] 98 (0, 0)) (by (with_reducible repeat (first | refine blk_drewN ?_ _ | refine blk_drew ?_ | refine blk_alloc ?_ _)); exact BK159.out) hb)
                                          have n2_ := Aside0.mk (below_step (by repeat (first | (with_reducible first | exact HB.out | apply below_alloc | apply pw_below_drewN | apply below_drew1 | refine below_set ?_ GE159.out) | exact HB.out)) hb)
                                          clear BK159
                                          clear HB
                                          have HO167 := n0_
                                          have BK159 := n1_
                                          have HB := n2_
                                          clear n0_ n1_ n2_
                                          clear hb ho24
                                          refine hK.out _ _ ⟨(blk_cell BK159.out 0).trans rfl, (blk_cell BK159.out 1).trans rfl, (blk_cell BK159.out 2).trans rfl, (blk_cell BK159.out 3).trans rfl, (blk_cell BK159.out 4).trans rfl, (blk_cell BK159.out 5).trans rfl, (blk_cell BK159.out 6).trans rfl, (blk_cell BK159.out 7).trans rfl, (blk_cell BK159.out 8).trans rfl⟩ (fun hHeld => ?_)
                                          clear hK K
                                          refine norm_ (a' := ?_) ?_ ?_
                                          rotate_left
                                          · show Act.put _ (some 43) _ = _
                                            simp only [Act.put, List.setIfInBounds_toArray, List.set_cons_zero, List.set_cons_succ, i64_w, i32_w]
                                            rfl
                                          exact norm_ (by first | (simp only [putAll, Act.put, List.setIfInBounds_toArray, List.set_cons_zero, List.set_cons_succ]; done) | (simp only [putAll, Act.put, List.setIfInBounds_toArray, List.set_cons_zero, List.set_cons_succ]; rfl)) (hJ7_12 (v166) _ ⟨hHeld, (by (with_reducible repeat (first | apply Kd.R_alloc | apply Kd.R_drewN | apply Kd.R_drew)); exact HO167.out), (by (with_reducible repeat (first | refine blk_drewN ?_ _ | refine blk_drew ?_ | refine blk_alloc ?_ _)); exact BK159.out), (by repeat (first | (with_reducible first | exact HB.out | apply below_alloc | apply pw_below_drewN | apply below_drew1 | refine below_set ?_ GE159.out) | exact HB.out))⟩)
                                        · skip
                                          refine goes_ Try.func56 (by kernel_rfl) rfl #[.int .i64 ((rd_T98 l0 x4_1).f7)] (by rfl) rfl rfl (by (try simp only [List.map_toArray, List.map_cons, List.map_nil]); first | done | rfl | (simp only [List.length_drop, List.length_take]; rfl)) ?_
                                          with_reducible refine (aneroidref21_number.calls k1 ((rd_T98 l0 x4_1).f7) t169 _ A12.out).mono ?_
                                          rintro e w23 ⟨rfl, hb⟩
                                          refine ⟨_, rfl, ?_⟩
                                          have n0_ := Aside0.mk (blk_below (g := gb159) (o := .cells #[.int .i64 ((rd_T98 l0 x4_1).f0), .bool ((rd_T98 l0 x4_1).f1), .bool ((rd_T98 l0 x4_1).f2), .bool ((rd_T98 l0 x4_1).f3), .bool ((rd_T98 l0 x4_1).f4), .bool ((rd_T98 l0 x4_1).f5), .int .i64 ((rd_T98 l0 x4_1).f6), .int .i64 ((rd_T98 l0 x4_1).f7), .int .i64 ((rd_T98 l0 x4_1).f8)] 98 (0, 0)) (by (with_reducible repeat (first | refine blk_drewN ?_ _ | refine blk_drew ?_ | refine blk_alloc ?_ _)); exact BK159.out) hb)
                                          have n1_ := Aside0.mk (below_step (by repeat (first | (with_reducible first | exact HB.out | apply below_alloc | apply pw_below_drewN | apply below_drew1 | refine below_set ?_ GE159.out) | exact HB.out)) hb)
                                          clear BK159
                                          clear HB
                                          have BK159 := n0_
                                          have HB := n1_
                                          clear n0_ n1_
                                          (try clear hb)
                                          (try clear hb2)
                                          (try clear hk)
                                          (try clear hi)
                                          refine hK.out _ _ ⟨(blk_cell BK159.out 0).trans rfl, (blk_cell BK159.out 1).trans rfl, (blk_cell BK159.out 2).trans rfl, (blk_cell BK159.out 3).trans rfl, (blk_cell BK159.out 4).trans rfl, (blk_cell BK159.out 5).trans rfl, (blk_cell BK159.out 6).trans rfl, (blk_cell BK159.out 7).trans rfl, (blk_cell BK159.out 8).trans rfl⟩ (fun hHeld => ?_)
                                          clear hK K
                                          refine norm_ (a' := ?_) ?_ ?_
                                          rotate_left
                                          · show Act.put _ (some 52) _ = _
                                            simp only [Act.put, List.setIfInBounds_toArray, List.set_cons_zero, List.set_cons_succ, i64_w, i32_w]
                                            rfl
                                          exact norm_ (by first | (simp only [putAll, Act.put, List.setIfInBounds_toArray, List.set_cons_zero, List.set_cons_succ]; done) | (simp only [putAll, Act.put, List.setIfInBounds_toArray, List.set_cons_zero, List.set_cons_succ]; rfl)) (hJ12_16 () _ ⟨hHeld, (by (with_reducible repeat (first | refine blk_drewN ?_ _ | refine blk_drew ?_ | refine blk_alloc ?_ _)); exact BK159.out), (by repeat (first | (with_reducible first | exact HB.out | apply below_alloc | apply pw_below_drewN | apply below_drew1 | refine below_set ?_ GE159.out) | exact HB.out))⟩)
                                    · skip
                                      rintro v166 w23 ⟨hS_, h0_, h1_, h2_⟩
                                      have n0_ : Aside0 (Kd.R (Kd.int .u8) 5 w23 w.heap.size (fun _ => True) v166 y165) := ⟨h0_⟩
                                      have n1_ : Aside0 (w23.heap[gb159]? = some (.cells #[.int .i64 ((rd_T98 l0 x4_1).f0), .bool ((rd_T98 l0 x4_1).f1), .bool ((rd_T98 l0 x4_1).f2), .bool ((rd_T98 l0 x4_1).f3), .bool ((rd_T98 l0 x4_1).f4), .bool ((rd_T98 l0 x4_1).f5), .int .i64 ((rd_T98 l0 x4_1).f6), .int .i64 ((rd_T98 l0 x4_1).f7), .int .i64 ((rd_T98 l0 x4_1).f8)] 98 (0, 0))) := ⟨h1_⟩
                                      have n2_ : Aside0 (Below w.heap.size w w23) := ⟨h2_⟩
                                      clear BK159
                                      clear HB
                                      clear h0_ h1_ h2_
                                      have HO167 := n0_
                                      have BK159 := n1_
                                      have HB := n2_
                                      clear n0_ n1_ n2_
                                      have hHeld : w23.cell? ⟨gb159, 0, none⟩ = some (.int .i64 ((rd_T98 l0 x4_1).f0)) ∧ w23.cell? ⟨gb159, 1, none⟩ = some (.bool ((rd_T98 l0 x4_1).f1)) ∧ w23.cell? ⟨gb159, 2, none⟩ = some (.bool ((rd_T98 l0 x4_1).f2)) ∧ w23.cell? ⟨gb159, 3, none⟩ = some (.bool ((rd_T98 l0 x4_1).f3)) ∧ w23.cell? ⟨gb159, 4, none⟩ = some (.bool ((rd_T98 l0 x4_1).f4)) ∧ w23.cell? ⟨gb159, 5, none⟩ = some (.bool ((rd_T98 l0 x4_1).f5)) ∧ w23.cell? ⟨gb159, 6, none⟩ = some (.int .i64 ((rd_T98 l0 x4_1).f6)) ∧ w23.cell? ⟨gb159, 7, none⟩ = some (.int .i64 ((rd_T98 l0 x4_1).f7)) ∧ w23.cell? ⟨gb159, 8, none⟩ = some (.int .i64 ((rd_T98 l0 x4_1).f8)) := hS_
                                      refine norm_ (a' := ?_) ?_ ?_
                                      rotate_left
                                      · simp only [putAll, Act.put, List.setIfInBounds_toArray, List.set_cons_zero, List.set_cons_succ]
                                        rfl
                                      refine two_ (i := 8) (j := 12) (Ni := some 44) (Nj := some 48) #[true, true, true, true, true, true, true, true, true, false, true, true, false, false, true, true, false, false, true, true, false, false, false] #[true, true, true, true, true, true, true, true, false, false, true, true, true, false, true, true, false, false, true, true, false, false, false] rfl rfl rfl rfl (two_of HT_.out (by kernel_rfl)) (by decide) (by decide) (fun K hK => ?_) (fun K hK => ?_)
                                      · skip
                                        have hcv24 := own_string (P := Try.prog) Try.underlying68 Try.underlying5 Try.underlying9 (Kd.own_of_R HO167.out)
                                        refine value_ (w1 := ?_) (v := ?_) (by rfl) rfl ?_ ?_
                                        rotate_left 2
                                        · go_simp
                                          constructor
                                          · rfl
                                          · rfl
                                        clear hcv24
                                        refine hK.out _ _ ⟨(blk_cell BK159.out 0).trans rfl, (blk_cell BK159.out 1).trans rfl, (blk_cell BK159.out 2).trans rfl, (blk_cell BK159.out 3).trans rfl, (blk_cell BK159.out 4).trans rfl, (blk_cell BK159.out 5).trans rfl, (blk_cell BK159.out 6).trans rfl, (blk_cell BK159.out 7).trans rfl, (blk_cell BK159.out 8).trans rfl⟩ (fun hHeld => ?_)
                                        clear hK K
                                        refine norm_ (a' := ?_) ?_ ?_
                                        rotate_left
                                        · show Act.put _ (some 44) _ = _
                                          simp only [Act.put, List.setIfInBounds_toArray, List.set_cons_zero, List.set_cons_succ, i64_w, i32_w]
                                          rfl
                                        refine pure_ (i := 9) (N := some 45) (v := ?_) (a' := ?_) #[true, true, true, true, true, true, true, true, true, true, true, true, false, false, true, true, false, false, true, true, false, false, false] rfl rfl (any_of HT_.out (by kernel_rfl)) (fun _ _ _ h => h) (Or.inl ⟨by rfl, ?_⟩) ?_ ?_
                                        rotate_left
                                        · intro w'
                                          go_simp
                                          with_reducible rfl
                                        rotate_left
                                        · simp only [Act.put, List.setIfInBounds_toArray, List.set_cons_zero, List.set_cons_succ, i64_w, i32_w]
                                          rfl
                                        exact norm_ (by first | (simp only [putAll, Act.put, List.setIfInBounds_toArray, List.set_cons_zero, List.set_cons_succ]; done) | (simp only [putAll, Act.put, List.setIfInBounds_toArray, List.set_cons_zero, List.set_cons_succ]; rfl)) (hJ7_8 (v166) _ ⟨hHeld, (by (with_reducible repeat (first | apply Kd.R_alloc | apply Kd.R_drewN | apply Kd.R_drew)); exact HO167.out), (by (with_reducible repeat (first | refine blk_drewN ?_ _ | refine blk_drew ?_ | refine blk_alloc ?_ _)); exact BK159.out), (by repeat (first | (with_reducible first | exact HB.out | apply below_alloc | apply pw_below_drewN | apply below_drew1 | refine below_set ?_ GE159.out) | exact HB.out))⟩)
                                      · skip
                                        refine goes_ Try.func56 (by kernel_rfl) rfl #[.int .i64 ((rd_T98 l0 x4_1).f6)] (by rfl) rfl rfl (by (try simp only [List.map_toArray, List.map_cons, List.map_nil]); first | done | rfl | (simp only [List.length_drop, List.length_take]; rfl)) ?_
                                        with_reducible refine (aneroidref21_number.calls k1 ((rd_T98 l0 x4_1).f6) t168 _ A10.out).mono ?_
                                        rintro e w24 ⟨rfl, hb⟩
                                        refine ⟨_, rfl, ?_⟩
                                        have n0_ := Aside0.mk (Kd.R_below (by (with_reducible repeat (first | apply Kd.R_alloc | apply Kd.R_drewN | apply Kd.R_drew)); exact HO167.out) hb)
                                        have n1_ := Aside0.mk (blk_below (g := gb159) (o := .cells #[.int .i64 ((rd_T98 l0 x4_1).f0), .bool ((rd_T98 l0 x4_1).f1), .bool ((rd_T98 l0 x4_1).f2), .bool ((rd_T98 l0 x4_1).f3), .bool ((rd_T98 l0 x4_1).f4), .bool ((rd_T98 l0 x4_1).f5), .int .i64 ((rd_T98 l0 x4_1).f6), .int .i64 ((rd_T98 l0 x4_1).f7), .int .i64 ((rd_T98 l0 x4_1).f8)] 98 (0, 0)) (by (with_reducible repeat (first | refine blk_drewN ?_ _ | refine blk_drew ?_ | refine blk_alloc ?_ _)); exact BK159.out) hb)
                                        have n2_ := Aside0.mk (below_step (by repeat (first | (with_reducible first | exact HB.out | apply below_alloc | apply pw_below_drewN | apply below_drew1 | refine below_set ?_ GE159.out) | exact HB.out)) hb)
                                        clear HO167
                                        clear BK159
                                        clear HB
                                        have HO167 := n0_
                                        have BK159 := n1_
                                        have HB := n2_
                                        clear n0_ n1_ n2_
                                        (try clear hb)
                                        (try clear hb2)
                                        (try clear hk)
                                        (try clear hi)
                                        refine hK.out _ _ ⟨(blk_cell BK159.out 0).trans rfl, (blk_cell BK159.out 1).trans rfl, (blk_cell BK159.out 2).trans rfl, (blk_cell BK159.out 3).trans rfl, (blk_cell BK159.out 4).trans rfl, (blk_cell BK159.out 5).trans rfl, (blk_cell BK159.out 6).trans rfl, (blk_cell BK159.out 7).trans rfl, (blk_cell BK159.out 8).trans rfl⟩ (fun hHeld => ?_)
                                        clear hK K
                                        refine norm_ (a' := ?_) ?_ ?_
                                        rotate_left
                                        · show Act.put _ (some 48) _ = _
                                          simp only [Act.put, List.setIfInBounds_toArray, List.set_cons_zero, List.set_cons_succ, i64_w, i32_w]
                                          rfl
                                        exact norm_ (by first | (simp only [putAll, Act.put, List.setIfInBounds_toArray, List.set_cons_zero, List.set_cons_succ]; done) | (simp only [putAll, Act.put, List.setIfInBounds_toArray, List.set_cons_zero, List.set_cons_succ]; rfl)) (hJ7_12 (v166) _ ⟨hHeld, (by (with_reducible repeat (first | apply Kd.R_alloc | apply Kd.R_drewN | apply Kd.R_drew)); exact HO167.out), (by (with_reducible repeat (first | refine blk_drewN ?_ _ | refine blk_drew ?_ | refine blk_alloc ?_ _)); exact BK159.out), (by repeat (first | (with_reducible first | exact HB.out | apply below_alloc | apply pw_below_drewN | apply below_drew1 | refine below_set ?_ GE159.out) | exact HB.out))⟩)
                                  · skip
                                    rintro _ w23 ⟨hS_, h0_, h1_⟩
                                    have n0_ : Aside0 (w23.heap[gb159]? = some (.cells #[.int .i64 ((rd_T98 l0 x4_1).f0), .bool ((rd_T98 l0 x4_1).f1), .bool ((rd_T98 l0 x4_1).f2), .bool ((rd_T98 l0 x4_1).f3), .bool ((rd_T98 l0 x4_1).f4), .bool ((rd_T98 l0 x4_1).f5), .int .i64 ((rd_T98 l0 x4_1).f6), .int .i64 ((rd_T98 l0 x4_1).f7), .int .i64 ((rd_T98 l0 x4_1).f8)] 98 (0, 0))) := ⟨h0_⟩
                                    have n1_ : Aside0 (Below w.heap.size w w23) := ⟨h1_⟩
                                    clear BK159
                                    clear HB
                                    clear h0_ h1_
                                    have BK159 := n0_
                                    have HB := n1_
                                    clear n0_ n1_
                                    have hHeld : w23.cell? ⟨gb159, 0, none⟩ = some (.int .i64 ((rd_T98 l0 x4_1).f0)) ∧ w23.cell? ⟨gb159, 1, none⟩ = some (.bool ((rd_T98 l0 x4_1).f1)) ∧ w23.cell? ⟨gb159, 2, none⟩ = some (.bool ((rd_T98 l0 x4_1).f2)) ∧ w23.cell? ⟨gb159, 3, none⟩ = some (.bool ((rd_T98 l0 x4_1).f3)) ∧ w23.cell? ⟨gb159, 4, none⟩ = some (.bool ((rd_T98 l0 x4_1).f4)) ∧ w23.cell? ⟨gb159, 5, none⟩ = some (.bool ((rd_T98 l0 x4_1).f5)) ∧ w23.cell? ⟨gb159, 6, none⟩ = some (.int .i64 ((rd_T98 l0 x4_1).f6)) ∧ w23.cell? ⟨gb159, 7, none⟩ = some (.int .i64 ((rd_T98 l0 x4_1).f7)) ∧ w23.cell? ⟨gb159, 8, none⟩ = some (.int .i64 ((rd_T98 l0 x4_1).f8)) := hS_
                                    refine norm_ (a' := ?_) ?_ ?_
                                    rotate_left
                                    · simp only [putAll, Act.put, List.setIfInBounds_toArray, List.set_cons_zero, List.set_cons_succ]
                                      rfl
                                    refine two_ (i := 7) (j := 20) (Ni := some 43) (Nj := some 56) #[true, true, true, true, true, true, true, true, false, false, true, true, true, false, true, true, true, false, true, true, false, false, false] #[true, true, true, true, true, true, true, false, false, false, true, true, true, false, true, true, true, false, true, true, true, false, false] rfl rfl rfl rfl (two_of HT_.out (by kernel_rfl)) (by decide) (by decide) (fun K hK => ?_) (fun K hK => ?_)
                                    · skip
                                      refine Kd.R_lit_step (Kd.int .u8) _ 5 ?hg (N := 43) ?hd (xs := ([(Int.tmod (IntKind.u64.wrap ((rd_T98 l0 x4_1).f0)) 256) % 256, (((((((t160 + t161) % 256) + t162) % 256) + t163) % 256) + t164) % 256, 0, 0] : List Int)) (inner := [.int .u8 ((Int.tmod (IntKind.u64.wrap ((rd_T98 l0 x4_1).f0)) 256) % 256), .int .u8 ((((((((t160 + t161) % 256) + t162) % 256) + t163) % 256) + t164) % 256), .int .u8 0, .int .u8 0]) (ok := fun _ => True) (okp := fun _ => True) ?hr ?hp (fun _ hk => hk) trivial (Below.refl _ _) (Nat.le_refl _) (by simp) ?_; (case hd => rfl); (case hg => rfl); (case hr => first | (go_simp; done) | (go_simp; rfl) | (go_simp; simp only [IntKind.wrap_u8]; first | rfl | (simp; done))); (case hp => exact (Reps.one (show Kd.M (Kd.int .u8) _ _ _ ((Int.tmod (IntKind.u64.wrap ((rd_T98 l0 x4_1).f0)) 256) % 256) [.int .u8 ((Int.tmod (IntKind.u64.wrap ((rd_T98 l0 x4_1).f0)) 256) % 256)] from rfl) (Reps.one (show Kd.M (Kd.int .u8) _ _ _ ((((((((t160 + t161) % 256) + t162) % 256) + t163) % 256) + t164) % 256) [.int .u8 ((((((((t160 + t161) % 256) + t162) % 256) + t163) % 256) + t164) % 256)] from rfl) (Reps.one (show Kd.M (Kd.int .u8) _ _ _ 0 [.int .u8 0] from rfl) (Reps.one (show Kd.M (Kd.int .u8) _ _ _ 0 [.int .u8 0] from rfl) (Reps.none _ _))))))
                                      intro v166 w24 ho25 hb hg_ hnew_
                                      clear hg_ hnew_
                                      (first | rw [← Ny165.out] at ho25 | (simp only [Int.reduceToNat] at ho25; rw [← Ny165.out] at ho25))
                                      have n0_ := Aside0.mk (Kd.R_lower ho25 (below_size (by repeat (first | (with_reducible first | exact HB.out | apply below_alloc | apply pw_below_drewN | apply below_drew1 | refine below_set ?_ GE159.out) | exact HB.out))))
                                      have n1_ := Aside0.mk (blk_below (g := gb159) (o := .cells #[.int .i64 ((rd_T98 l0 x4_1).f0), .bool ((rd_T98 l0 x4_1).f1), .bool ((rd_T98 l0 x4_1).f2), .bool ((rd_T98 l0 x4_1).f3), .bool ((rd_T98 l0 x4_1).f4), .bool ((rd_T98 l0 x4_1).f5), .int .i64 ((rd_T98 l0 x4_1).f6), .int .i64 ((rd_T98 l0 x4_1).f7), .int .i64 ((rd_T98 l0 x4_1).f8)] 98 (0, 0)) (by (with_reducible repeat (first | refine blk_drewN ?_ _ | refine blk_drew ?_ | refine blk_alloc ?_ _)); exact BK159.out) hb)
                                      have n2_ := Aside0.mk (below_step (by repeat (first | (with_reducible first | exact HB.out | apply below_alloc | apply pw_below_drewN | apply below_drew1 | refine below_set ?_ GE159.out) | exact HB.out)) hb)
                                      clear BK159
                                      clear HB
                                      have HO167 := n0_
                                      have BK159 := n1_
                                      have HB := n2_
                                      clear n0_ n1_ n2_
                                      clear hb ho25
                                      refine hK.out _ _ ⟨(blk_cell BK159.out 0).trans rfl, (blk_cell BK159.out 1).trans rfl, (blk_cell BK159.out 2).trans rfl, (blk_cell BK159.out 3).trans rfl, (blk_cell BK159.out 4).trans rfl, (blk_cell BK159.out 5).trans rfl, (blk_cell BK159.out 6).trans rfl, (blk_cell BK159.out 7).trans rfl, (blk_cell BK159.out 8).trans rfl⟩ (fun hHeld => ?_)
                                      clear hK K
                                      refine norm_ (a' := ?_) ?_ ?_
                                      rotate_left
                                      · show Act.put _ (some 43) _ = _
                                        simp only [Act.put, List.setIfInBounds_toArray, List.set_cons_zero, List.set_cons_succ, i64_w, i32_w]
                                        rfl
                                      exact norm_ (by first | (simp only [putAll, Act.put, List.setIfInBounds_toArray, List.set_cons_zero, List.set_cons_succ]; done) | (simp only [putAll, Act.put, List.setIfInBounds_toArray, List.set_cons_zero, List.set_cons_succ]; rfl)) (hJ7_12_16 (v166) _ ⟨hHeld, (by (with_reducible repeat (first | apply Kd.R_alloc | apply Kd.R_drewN | apply Kd.R_drew)); exact HO167.out), (by (with_reducible repeat (first | refine blk_drewN ?_ _ | refine blk_drew ?_ | refine blk_alloc ?_ _)); exact BK159.out), (by repeat (first | (with_reducible first | exact HB.out | apply below_alloc | apply pw_below_drewN | apply below_drew1 | refine below_set ?_ GE159.out) | exact HB.out))⟩)
                                    · skip
                                      refine goes_ Try.func56 (by kernel_rfl) rfl #[.int .i64 ((rd_T98 l0 x4_1).f8)] (by rfl) rfl rfl (by (try simp only [List.map_toArray, List.map_cons, List.map_nil]); first | done | rfl | (simp only [List.length_drop, List.length_take]; rfl)) ?_
                                      with_reducible refine (aneroidref21_number.calls k1 ((rd_T98 l0 x4_1).f8) t170 _ A14.out).mono ?_
                                      rintro e w24 ⟨rfl, hb⟩
                                      refine ⟨_, rfl, ?_⟩
                                      have n0_ := Aside0.mk (blk_below (g := gb159) (o := .cells #[.int .i64 ((rd_T98 l0 x4_1).f0), .bool ((rd_T98 l0 x4_1).f1), .bool ((rd_T98 l0 x4_1).f2), .bool ((rd_T98 l0 x4_1).f3), .bool ((rd_T98 l0 x4_1).f4), .bool ((rd_T98 l0 x4_1).f5), .int .i64 ((rd_T98 l0 x4_1).f6), .int .i64 ((rd_T98 l0 x4_1).f7), .int .i64 ((rd_T98 l0 x4_1).f8)] 98 (0, 0)) (by (with_reducible repeat (first | refine blk_drewN ?_ _ | refine blk_drew ?_ | refine blk_alloc ?_ _)); exact BK159.out) hb)
                                      have n1_ := Aside0.mk (below_step (by repeat (first | (with_reducible first | exact HB.out | apply below_alloc | apply pw_below_drewN | apply below_drew1 | refine below_set ?_ GE159.out) | exact HB.out)) hb)
                                      clear BK159
                                      clear HB
                                      have BK159 := n0_
                                      have HB := n1_
                                      clear n0_ n1_
                                      (try clear hb)
                                      (try clear hb2)
                                      (try clear hk)
                                      (try clear hi)
                                      refine hK.out _ _ ⟨(blk_cell BK159.out 0).trans rfl, (blk_cell BK159.out 1).trans rfl, (blk_cell BK159.out 2).trans rfl, (blk_cell BK159.out 3).trans rfl, (blk_cell BK159.out 4).trans rfl, (blk_cell BK159.out 5).trans rfl, (blk_cell BK159.out 6).trans rfl, (blk_cell BK159.out 7).trans rfl, (blk_cell BK159.out 8).trans rfl⟩ (fun hHeld => ?_)
                                      clear hK K
                                      refine norm_ (a' := ?_) ?_ ?_
                                      rotate_left
                                      · show Act.put _ (some 56) _ = _
                                        simp only [Act.put, List.setIfInBounds_toArray, List.set_cons_zero, List.set_cons_succ, i64_w, i32_w]
                                        rfl
                                      exact norm_ (by first | (simp only [putAll, Act.put, List.setIfInBounds_toArray, List.set_cons_zero, List.set_cons_succ]; done) | (simp only [putAll, Act.put, List.setIfInBounds_toArray, List.set_cons_zero, List.set_cons_succ]; rfl)) (hJ12_16_20 () _ ⟨hHeld, (by (with_reducible repeat (first | refine blk_drewN ?_ _ | refine blk_drew ?_ | refine blk_alloc ?_ _)); exact BK159.out), (by repeat (first | (with_reducible first | exact HB.out | apply below_alloc | apply pw_below_drewN | apply below_drew1 | refine below_set ?_ GE159.out) | exact HB.out))⟩)
                                · skip
                                  rintro v166 w24 ⟨hS_, h0_, h1_, h2_⟩
                                  have n0_ : Aside0 (Kd.R (Kd.int .u8) 5 w24 w.heap.size (fun _ => True) v166 y165) := ⟨h0_⟩
                                  have n1_ : Aside0 (w24.heap[gb159]? = some (.cells #[.int .i64 ((rd_T98 l0 x4_1).f0), .bool ((rd_T98 l0 x4_1).f1), .bool ((rd_T98 l0 x4_1).f2), .bool ((rd_T98 l0 x4_1).f3), .bool ((rd_T98 l0 x4_1).f4), .bool ((rd_T98 l0 x4_1).f5), .int .i64 ((rd_T98 l0 x4_1).f6), .int .i64 ((rd_T98 l0 x4_1).f7), .int .i64 ((rd_T98 l0 x4_1).f8)] 98 (0, 0))) := ⟨h1_⟩
                                  have n2_ : Aside0 (Below w.heap.size w w24) := ⟨h2_⟩
                                  clear BK159
                                  clear HB
                                  clear h0_ h1_ h2_
                                  have HO167 := n0_
                                  have BK159 := n1_
                                  have HB := n2_
                                  clear n0_ n1_ n2_
                                  have hHeld : w24.cell? ⟨gb159, 0, none⟩ = some (.int .i64 ((rd_T98 l0 x4_1).f0)) ∧ w24.cell? ⟨gb159, 1, none⟩ = some (.bool ((rd_T98 l0 x4_1).f1)) ∧ w24.cell? ⟨gb159, 2, none⟩ = some (.bool ((rd_T98 l0 x4_1).f2)) ∧ w24.cell? ⟨gb159, 3, none⟩ = some (.bool ((rd_T98 l0 x4_1).f3)) ∧ w24.cell? ⟨gb159, 4, none⟩ = some (.bool ((rd_T98 l0 x4_1).f4)) ∧ w24.cell? ⟨gb159, 5, none⟩ = some (.bool ((rd_T98 l0 x4_1).f5)) ∧ w24.cell? ⟨gb159, 6, none⟩ = some (.int .i64 ((rd_T98 l0 x4_1).f6)) ∧ w24.cell? ⟨gb159, 7, none⟩ = some (.int .i64 ((rd_T98 l0 x4_1).f7)) ∧ w24.cell? ⟨gb159, 8, none⟩ = some (.int .i64 ((rd_T98 l0 x4_1).f8)) := hS_
                                  refine norm_ (a' := ?_) ?_ ?_
                                  rotate_left
                                  · simp only [putAll, Act.put, List.setIfInBounds_toArray, List.set_cons_zero, List.set_cons_succ]
                                    rfl
                                  refine two_ (i := 8) (j := 16) (Ni := some 44) (Nj := some 52) #[true, true, true, true, true, true, true, true, true, false, true, true, true, false, true, true, false, false, true, true, false, false, false] #[true, true, true, true, true, true, true, true, false, false, true, true, true, false, true, true, true, false, true, true, false, false, false] rfl rfl rfl rfl (two_of HT_.out (by kernel_rfl)) (by decide) (by decide) (fun K hK => ?_) (fun K hK => ?_)
                                  · skip
                                    have hcv25 := own_string (P := Try.prog) Try.underlying68 Try.underlying5 Try.underlying9 (Kd.own_of_R HO167.out)
                                    refine value_ (w1 := ?_) (v := ?_) (by rfl) rfl ?_ ?_
                                    rotate_left 2
                                    · go_simp
                                      constructor
                                      · rfl
                                      · rfl
                                    clear hcv25
                                    refine hK.out _ _ ⟨(blk_cell BK159.out 0).trans rfl, (blk_cell BK159.out 1).trans rfl, (blk_cell BK159.out 2).trans rfl, (blk_cell BK159.out 3).trans rfl, (blk_cell BK159.out 4).trans rfl, (blk_cell BK159.out 5).trans rfl, (blk_cell BK159.out 6).trans rfl, (blk_cell BK159.out 7).trans rfl, (blk_cell BK159.out 8).trans rfl⟩ (fun hHeld => ?_)
                                    clear hK K
                                    refine norm_ (a' := ?_) ?_ ?_
                                    rotate_left
                                    · show Act.put _ (some 44) _ = _
                                      simp only [Act.put, List.setIfInBounds_toArray, List.set_cons_zero, List.set_cons_succ, i64_w, i32_w]
                                      rfl
                                    refine pure_ (i := 9) (N := some 45) (v := ?_) (a' := ?_) #[true, true, true, true, true, true, true, true, true, true, true, true, true, false, true, true, false, false, true, true, false, false, false] rfl rfl (any_of HT_.out (by kernel_rfl)) (fun _ _ _ h => h) (Or.inl ⟨by rfl, ?_⟩) ?_ ?_
                                    rotate_left
                                    · intro w'
                                      go_simp
                                      with_reducible rfl
                                    rotate_left
                                    · simp only [Act.put, List.setIfInBounds_toArray, List.set_cons_zero, List.set_cons_succ, i64_w, i32_w]
                                      rfl
                                    refine pure_ (i := 13) (N := some 49) (v := ?_) (a' := ?_) #[true, true, true, true, true, true, true, true, true, true, true, true, true, true, true, true, false, false, true, true, false, false, false] rfl rfl (any_of HT_.out (by kernel_rfl)) (fun _ _ _ h => h) (Or.inl ⟨by rfl, ?_⟩) ?_ ?_
                                    rotate_left
                                    · intro w'
                                      go_simp
                                      with_reducible rfl
                                    rotate_left
                                    · simp only [Act.put, List.setIfInBounds_toArray, List.set_cons_zero, List.set_cons_succ, i64_w, i32_w]
                                      rfl
                                    exact norm_ (by first | (simp only [putAll, Act.put, List.setIfInBounds_toArray, List.set_cons_zero, List.set_cons_succ]; done) | (simp only [putAll, Act.put, List.setIfInBounds_toArray, List.set_cons_zero, List.set_cons_succ]; rfl)) (hJ7_8_12 (v166) _ ⟨hHeld, (by (with_reducible repeat (first | apply Kd.R_alloc | apply Kd.R_drewN | apply Kd.R_drew)); exact HO167.out), (by (with_reducible repeat (first | refine blk_drewN ?_ _ | refine blk_drew ?_ | refine blk_alloc ?_ _)); exact BK159.out), (by repeat (first | (with_reducible first | exact HB.out | apply below_alloc | apply pw_below_drewN | apply below_drew1 | refine below_set ?_ GE159.out) | exact HB.out))⟩)
                                  · skip
                                    refine goes_ Try.func56 (by kernel_rfl) rfl #[.int .i64 ((rd_T98 l0 x4_1).f7)] (by rfl) rfl rfl (by (try simp only [List.map_toArray, List.map_cons, List.map_nil]); first | done | rfl | (simp only [List.length_drop, List.length_take]; rfl)) ?_
                                    with_reducible refine (aneroidref21_number.calls k1 ((rd_T98 l0 x4_1).f7) t169 _ A12.out).mono ?_
                                    rintro e w25 ⟨rfl, hb⟩
                                    refine ⟨_, rfl, ?_⟩
                                    have n0_ := Aside0.mk (Kd.R_below (by (with_reducible repeat (first | apply Kd.R_alloc | apply Kd.R_drewN | apply Kd.R_drew)); exact HO167.out) hb)
                                    have n1_ := Aside0.mk (blk_below (g := gb159) (o := .cells #[.int .i64 ((rd_T98 l0 x4_1).f0), .bool ((rd_T98 l0 x4_1).f1), .bool ((rd_T98 l0 x4_1).f2), .bool ((rd_T98 l0 x4_1).f3), .bool ((rd_T98 l0 x4_1).f4), .bool ((rd_T98 l0 x4_1).f5), .int .i64 ((rd_T98 l0 x4_1).f6), .int .i64 ((rd_T98 l0 x4_1).f7), .int .i64 ((rd_T98 l0 x4_1).f8)] 98 (0, 0)) (by (with_reducible repeat (first | refine blk_drewN ?_ _ | refine blk_drew ?_ | refine blk_alloc ?_ _)); exact BK159.out) hb)
                                    have n2_ := Aside0.mk (below_step (by repeat (first | (with_reducible first | exact HB.out | apply below_alloc | apply pw_below_drewN | apply below_drew1 | refine below_set ?_ GE159.out) | exact HB.out)) hb)
                                    clear HO167
                                    clear BK159
                                    clear HB
                                    have HO167 := n0_
                                    have BK159 := n1_
                                    have HB := n2_
                                    clear n0_ n1_ n2_
                                    (try clear hb)
                                    (try clear hb2)
                                    (try clear hk)
                                    (try clear hi)
                                    refine hK.out _ _ ⟨(blk_cell BK159.out 0).trans rfl, (blk_cell BK159.out 1).trans rfl, (blk_cell BK159.out 2).trans rfl, (blk_cell BK159.out 3).trans rfl, (blk_cell BK159.out 4).trans rfl, (blk_cell BK159.out 5).trans rfl, (blk_cell BK159.out 6).trans rfl, (blk_cell BK159.out 7).trans rfl, (blk_cell BK159.out 8).trans rfl⟩ (fun hHeld => ?_)
                                    clear hK K
                                    refine norm_ (a' := ?_) ?_ ?_
                                    rotate_left
                                    · show Act.put _ (some 52) _ = _
                                      simp only [Act.put, List.setIfInBounds_toArray, List.set_cons_zero, List.set_cons_succ, i64_w, i32_w]
                                      rfl
                                    exact norm_ (by first | (simp only [putAll, Act.put, List.setIfInBounds_toArray, List.set_cons_zero, List.set_cons_succ]; done) | (simp only [putAll, Act.put, List.setIfInBounds_toArray, List.set_cons_zero, List.set_cons_succ]; rfl)) (hJ7_12_16 (v166) _ ⟨hHeld, (by (with_reducible repeat (first | apply Kd.R_alloc | apply Kd.R_drewN | apply Kd.R_drew)); exact HO167.out), (by (with_reducible repeat (first | refine blk_drewN ?_ _ | refine blk_drew ?_ | refine blk_alloc ?_ _)); exact BK159.out), (by repeat (first | (with_reducible first | exact HB.out | apply below_alloc | apply pw_below_drewN | apply below_drew1 | refine below_set ?_ GE159.out) | exact HB.out))⟩)
                              · skip
                                rintro v166 w24 ⟨hS_, h0_, h1_, h2_⟩
                                have n0_ : Aside0 (Kd.R (Kd.int .u8) 5 w24 w.heap.size (fun _ => True) v166 y165) := ⟨h0_⟩
                                have n1_ : Aside0 (w24.heap[gb159]? = some (.cells #[.int .i64 ((rd_T98 l0 x4_1).f0), .bool ((rd_T98 l0 x4_1).f1), .bool ((rd_T98 l0 x4_1).f2), .bool ((rd_T98 l0 x4_1).f3), .bool ((rd_T98 l0 x4_1).f4), .bool ((rd_T98 l0 x4_1).f5), .int .i64 ((rd_T98 l0 x4_1).f6), .int .i64 ((rd_T98 l0 x4_1).f7), .int .i64 ((rd_T98 l0 x4_1).f8)] 98 (0, 0))) := ⟨h1_⟩
                                have n2_ : Aside0 (Below w.heap.size w w24) := ⟨h2_⟩
                                clear BK159
                                clear HB
                                clear h0_ h1_ h2_
                                have HO167 := n0_
                                have BK159 := n1_
                                have HB := n2_
                                clear n0_ n1_ n2_
                                have hHeld : w24.cell? ⟨gb159, 0, none⟩ = some (.int .i64 ((rd_T98 l0 x4_1).f0)) ∧ w24.cell? ⟨gb159, 1, none⟩ = some (.bool ((rd_T98 l0 x4_1).f1)) ∧ w24.cell? ⟨gb159, 2, none⟩ = some (.bool ((rd_T98 l0 x4_1).f2)) ∧ w24.cell? ⟨gb159, 3, none⟩ = some (.bool ((rd_T98 l0 x4_1).f3)) ∧ w24.cell? ⟨gb159, 4, none⟩ = some (.bool ((rd_T98 l0 x4_1).f4)) ∧ w24.cell? ⟨gb159, 5, none⟩ = some (.bool ((rd_T98 l0 x4_1).f5)) ∧ w24.cell? ⟨gb159, 6, none⟩ = some (.int .i64 ((rd_T98 l0 x4_1).f6)) ∧ w24.cell? ⟨gb159, 7, none⟩ = some (.int .i64 ((rd_T98 l0 x4_1).f7)) ∧ w24.cell? ⟨gb159, 8, none⟩ = some (.int .i64 ((rd_T98 l0 x4_1).f8)) := hS_
                                refine norm_ (a' := ?_) ?_ ?_
                                rotate_left
                                · simp only [putAll, Act.put, List.setIfInBounds_toArray, List.set_cons_zero, List.set_cons_succ]
                                  rfl
                                refine one_ (i := 12) (N := some 48) #[true, true, true, true, true, true, true, true, true, true, true, true, true, false, true, true, false, false, true, true, false, false, false] rfl rfl (one_of HT_.out (by kernel_rfl)) (by decide) (fun K hK => ?_)
                                refine goes_ Try.func56 (by kernel_rfl) rfl #[.int .i64 ((rd_T98 l0 x4_1).f6)] (by rfl) rfl rfl (by (try simp only [List.map_toArray, List.map_cons, List.map_nil]); first | done | rfl | (simp only [List.length_drop, List.length_take]; rfl)) ?_
                                with_reducible refine (aneroidref21_number.calls k1 ((rd_T98 l0 x4_1).f6) t168 _ A10.out).mono ?_
                                rintro e w25 ⟨rfl, hb⟩
                                refine ⟨_, rfl, ?_⟩
                                have n0_ := Aside0.mk (Kd.R_below (by (with_reducible repeat (first | apply Kd.R_alloc | apply Kd.R_drewN | apply Kd.R_drew)); exact HO167.out) hb)
                                have n1_ := Aside0.mk (blk_below (g := gb159) (o := .cells #[.int .i64 ((rd_T98 l0 x4_1).f0), .bool ((rd_T98 l0 x4_1).f1), .bool ((rd_T98 l0 x4_1).f2), .bool ((rd_T98 l0 x4_1).f3), .bool ((rd_T98 l0 x4_1).f4), .bool ((rd_T98 l0 x4_1).f5), .int .i64 ((rd_T98 l0 x4_1).f6), .int .i64 ((rd_T98 l0 x4_1).f7), .int .i64 ((rd_T98 l0 x4_1).f8)] 98 (0, 0)) (by (with_reducible repeat (first | refine blk_drewN ?_ _ | refine blk_drew ?_ | refine blk_alloc ?_ _)); exact BK159.out) hb)
                                have n2_ := Aside0.mk (below_step (by repeat (first | (with_reducible first | exact HB.out | apply below_alloc | apply pw_below_drewN | apply below_drew1 | refine below_set ?_ GE159.out) | exact HB.out)) hb)
                                clear HO167
                                clear BK159
                                clear HB
                                have HO167 := n0_
                                have BK159 := n1_
                                have HB := n2_
                                clear n0_ n1_ n2_
                                (try clear hb)
                                (try clear hb2)
                                (try clear hk)
                                (try clear hi)
                                refine hK.out _ _ ⟨(blk_cell BK159.out 0).trans rfl, (blk_cell BK159.out 1).trans rfl, (blk_cell BK159.out 2).trans rfl, (blk_cell BK159.out 3).trans rfl, (blk_cell BK159.out 4).trans rfl, (blk_cell BK159.out 5).trans rfl, (blk_cell BK159.out 6).trans rfl, (blk_cell BK159.out 7).trans rfl, (blk_cell BK159.out 8).trans rfl⟩ (fun hHeld => ?_)
                                clear hK K
                                refine norm_ (a' := ?_) ?_ ?_
                                rotate_left
                                · show Act.put _ (some 48) _ = _
                                  simp only [Act.put, List.setIfInBounds_toArray, List.set_cons_zero, List.set_cons_succ, i64_w, i32_w]
                                  rfl
                                refine pure_ (i := 13) (N := some 49) (v := ?_) (a' := ?_) #[true, true, true, true, true, true, true, true, true, true, true, true, true, true, true, true, false, false, true, true, false, false, false] rfl rfl (any_of HT_.out (by kernel_rfl)) (fun _ _ _ h => h) (Or.inl ⟨by rfl, ?_⟩) ?_ ?_
                                rotate_left
                                · intro w'
                                  go_simp
                                  with_reducible rfl
                                rotate_left
                                · simp only [Act.put, List.setIfInBounds_toArray, List.set_cons_zero, List.set_cons_succ, i64_w, i32_w]
                                  rfl
                                exact norm_ (by first | (simp only [putAll, Act.put, List.setIfInBounds_toArray, List.set_cons_zero, List.set_cons_succ]; done) | (simp only [putAll, Act.put, List.setIfInBounds_toArray, List.set_cons_zero, List.set_cons_succ]; rfl)) (hJ7_8_12 (v166) _ ⟨hHeld, (by (with_reducible repeat (first | apply Kd.R_alloc | apply Kd.R_drewN | apply Kd.R_drew)); exact HO167.out), (by (with_reducible repeat (first | refine blk_drewN ?_ _ | refine blk_drew ?_ | refine blk_alloc ?_ _)); exact BK159.out), (by repeat (first | (with_reducible first | exact HB.out | apply below_alloc | apply pw_below_drewN | apply below_drew1 | refine below_set ?_ GE159.out) | exact HB.out))⟩)
                            · skip
                              rintro _ w24 ⟨hS_, h0_, h1_⟩
                              have n0_ : Aside0 (w24.heap[gb159]? = some (.cells #[.int .i64 ((rd_T98 l0 x4_1).f0), .bool ((rd_T98 l0 x4_1).f1), .bool ((rd_T98 l0 x4_1).f2), .bool ((rd_T98 l0 x4_1).f3), .bool ((rd_T98 l0 x4_1).f4), .bool ((rd_T98 l0 x4_1).f5), .int .i64 ((rd_T98 l0 x4_1).f6), .int .i64 ((rd_T98 l0 x4_1).f7), .int .i64 ((rd_T98 l0 x4_1).f8)] 98 (0, 0))) := ⟨h0_⟩
                              have n1_ : Aside0 (Below w.heap.size w w24) := ⟨h1_⟩
                              clear BK159
                              clear HB
                              clear h0_ h1_
                              have BK159 := n0_
                              have HB := n1_
                              clear n0_ n1_
                              have hHeld : w24.cell? ⟨gb159, 0, none⟩ = some (.int .i64 ((rd_T98 l0 x4_1).f0)) ∧ w24.cell? ⟨gb159, 1, none⟩ = some (.bool ((rd_T98 l0 x4_1).f1)) ∧ w24.cell? ⟨gb159, 2, none⟩ = some (.bool ((rd_T98 l0 x4_1).f2)) ∧ w24.cell? ⟨gb159, 3, none⟩ = some (.bool ((rd_T98 l0 x4_1).f3)) ∧ w24.cell? ⟨gb159, 4, none⟩ = some (.bool ((rd_T98 l0 x4_1).f4)) ∧ w24.cell? ⟨gb159, 5, none⟩ = some (.bool ((rd_T98 l0 x4_1).f5)) ∧ w24.cell? ⟨gb159, 6, none⟩ = some (.int .i64 ((rd_T98 l0 x4_1).f6)) ∧ w24.cell? ⟨gb159, 7, none⟩ = some (.int .i64 ((rd_T98 l0 x4_1).f7)) ∧ w24.cell? ⟨gb159, 8, none⟩ = some (.int .i64 ((rd_T98 l0 x4_1).f8)) := hS_
                              refine norm_ (a' := ?_) ?_ ?_
                              rotate_left
                              · simp only [putAll, Act.put, List.setIfInBounds_toArray, List.set_cons_zero, List.set_cons_succ]
                                rfl
                              refine one_ (i := 7) (N := some 43) #[true, true, true, true, true, true, true, true, false, false, true, true, true, false, true, true, true, false, true, true, true, false, false] rfl rfl (one_of HT_.out (by kernel_rfl)) (by decide) (fun K hK => ?_)
                              refine Kd.R_lit_step (Kd.int .u8) _ 5 ?hg (N := 43) ?hd (xs := ([(Int.tmod (IntKind.u64.wrap ((rd_T98 l0 x4_1).f0)) 256) % 256, (((((((t160 + t161) % 256) + t162) % 256) + t163) % 256) + t164) % 256, 0, 0] : List Int)) (inner := [.int .u8 ((Int.tmod (IntKind.u64.wrap ((rd_T98 l0 x4_1).f0)) 256) % 256), .int .u8 ((((((((t160 + t161) % 256) + t162) % 256) + t163) % 256) + t164) % 256), .int .u8 0, .int .u8 0]) (ok := fun _ => True) (okp := fun _ => True) ?hr ?hp (fun _ hk => hk) trivial (Below.refl _ _) (Nat.le_refl _) (by simp) ?_; (case hd => rfl); (case hg => rfl); (case hr => first | (go_simp; done) | (go_simp; rfl) | (go_simp; simp only [IntKind.wrap_u8]; first | rfl | (simp; done))); (case hp => exact (Reps.one (show Kd.M (Kd.int .u8) _ _ _ ((Int.tmod (IntKind.u64.wrap ((rd_T98 l0 x4_1).f0)) 256) % 256) [.int .u8 ((Int.tmod (IntKind.u64.wrap ((rd_T98 l0 x4_1).f0)) 256) % 256)] from rfl) (Reps.one (show Kd.M (Kd.int .u8) _ _ _ ((((((((t160 + t161) % 256) + t162) % 256) + t163) % 256) + t164) % 256) [.int .u8 ((((((((t160 + t161) % 256) + t162) % 256) + t163) % 256) + t164) % 256)] from rfl) (Reps.one (show Kd.M (Kd.int .u8) _ _ _ 0 [.int .u8 0] from rfl) (Reps.one (show Kd.M (Kd.int .u8) _ _ _ 0 [.int .u8 0] from rfl) (Reps.none _ _))))))
                              intro v166 w25 ho26 hb hg_ hnew_
                              clear hg_ hnew_
                              (first | rw [← Ny165.out] at ho26 | (simp only [Int.reduceToNat] at ho26; rw [← Ny165.out] at ho26))
                              have n0_ := Aside0.mk (Kd.R_lower ho26 (below_size (by repeat (first | (with_reducible first | exact HB.out | apply below_alloc | apply pw_below_drewN | apply below_drew1 | refine below_set ?_ GE159.out) | exact HB.out))))
                              have n1_ := Aside0.mk (blk_below (g := gb159) (o := .cells #[.int .i64 ((rd_T98 l0 x4_1).f0), .bool ((rd_T98 l0 x4_1).f1), .bool ((rd_T98 l0 x4_1).f2), .bool ((rd_T98 l0 x4_1).f3), .bool ((rd_T98 l0 x4_1).f4), .bool ((rd_T98 l0 x4_1).f5), .int .i64 ((rd_T98 l0 x4_1).f6), .int .i64 ((rd_T98 l0 x4_1).f7), .int .i64 ((rd_T98 l0 x4_1).f8)] 98 (0, 0)) (by (with_reducible repeat (first | refine blk_drewN ?_ _ | refine blk_drew ?_ | refine blk_alloc ?_ _)); exact BK159.out) hb)
                              have n2_ := Aside0.mk (below_step (by repeat (first | (with_reducible first | exact HB.out | apply below_alloc | apply pw_below_drewN | apply below_drew1 | refine below_set ?_ GE159.out) | exact HB.out)) hb)
                              clear BK159
                              clear HB
                              have HO167 := n0_
                              have BK159 := n1_
                              have HB := n2_
                              clear n0_ n1_ n2_
                              clear hb ho26
                              refine hK.out _ _ ⟨(blk_cell BK159.out 0).trans rfl, (blk_cell BK159.out 1).trans rfl, (blk_cell BK159.out 2).trans rfl, (blk_cell BK159.out 3).trans rfl, (blk_cell BK159.out 4).trans rfl, (blk_cell BK159.out 5).trans rfl, (blk_cell BK159.out 6).trans rfl, (blk_cell BK159.out 7).trans rfl, (blk_cell BK159.out 8).trans rfl⟩ (fun hHeld => ?_)
                              clear hK K
                              refine norm_ (a' := ?_) ?_ ?_
                              rotate_left
                              · show Act.put _ (some 43) _ = _
                                simp only [Act.put, List.setIfInBounds_toArray, List.set_cons_zero, List.set_cons_succ, i64_w, i32_w]
                                rfl
                              exact norm_ (by first | (simp only [putAll, Act.put, List.setIfInBounds_toArray, List.set_cons_zero, List.set_cons_succ]; done) | (simp only [putAll, Act.put, List.setIfInBounds_toArray, List.set_cons_zero, List.set_cons_succ]; rfl)) (hJ7_12_16_20 (v166) _ ⟨hHeld, (by (with_reducible repeat (first | apply Kd.R_alloc | apply Kd.R_drewN | apply Kd.R_drew)); exact HO167.out), (by (with_reducible repeat (first | refine blk_drewN ?_ _ | refine blk_drew ?_ | refine blk_alloc ?_ _)); exact BK159.out), (by repeat (first | (with_reducible first | exact HB.out | apply below_alloc | apply pw_below_drewN | apply below_drew1 | refine below_set ?_ GE159.out) | exact HB.out))⟩)
                          · skip
                            rintro v166 w25 ⟨hS_, h0_, h1_, h2_⟩
                            have n0_ : Aside0 (Kd.R (Kd.int .u8) 5 w25 w.heap.size (fun _ => True) v166 y165) := ⟨h0_⟩
                            have n1_ : Aside0 (w25.heap[gb159]? = some (.cells #[.int .i64 ((rd_T98 l0 x4_1).f0), .bool ((rd_T98 l0 x4_1).f1), .bool ((rd_T98 l0 x4_1).f2), .bool ((rd_T98 l0 x4_1).f3), .bool ((rd_T98 l0 x4_1).f4), .bool ((rd_T98 l0 x4_1).f5), .int .i64 ((rd_T98 l0 x4_1).f6), .int .i64 ((rd_T98 l0 x4_1).f7), .int .i64 ((rd_T98 l0 x4_1).f8)] 98 (0, 0))) := ⟨h1_⟩
                            have n2_ : Aside0 (Below w.heap.size w w25) := ⟨h2_⟩
                            clear BK159
                            clear HB
                            clear h0_ h1_ h2_
                            have HO167 := n0_
                            have BK159 := n1_
                            have HB := n2_
                            clear n0_ n1_ n2_
                            have hHeld : w25.cell? ⟨gb159, 0, none⟩ = some (.int .i64 ((rd_T98 l0 x4_1).f0)) ∧ w25.cell? ⟨gb159, 1, none⟩ = some (.bool ((rd_T98 l0 x4_1).f1)) ∧ w25.cell? ⟨gb159, 2, none⟩ = some (.bool ((rd_T98 l0 x4_1).f2)) ∧ w25.cell? ⟨gb159, 3, none⟩ = some (.bool ((rd_T98 l0 x4_1).f3)) ∧ w25.cell? ⟨gb159, 4, none⟩ = some (.bool ((rd_T98 l0 x4_1).f4)) ∧ w25.cell? ⟨gb159, 5, none⟩ = some (.bool ((rd_T98 l0 x4_1).f5)) ∧ w25.cell? ⟨gb159, 6, none⟩ = some (.int .i64 ((rd_T98 l0 x4_1).f6)) ∧ w25.cell? ⟨gb159, 7, none⟩ = some (.int .i64 ((rd_T98 l0 x4_1).f7)) ∧ w25.cell? ⟨gb159, 8, none⟩ = some (.int .i64 ((rd_T98 l0 x4_1).f8)) := hS_
                            refine norm_ (a' := ?_) ?_ ?_
                            rotate_left
                            · simp only [putAll, Act.put, List.setIfInBounds_toArray, List.set_cons_zero, List.set_cons_succ]
                              rfl
                            refine two_ (i := 8) (j := 20) (Ni := some 44) (Nj := some 56) #[true, true, true, true, true, true, true, true, true, false, true, true, true, false, true, true, true, false, true, true, false, false, false] #[true, true, true, true, true, true, true, true, false, false, true, true, true, false, true, true, true, false, true, true, true, false, false] rfl rfl rfl rfl (two_of HT_.out (by kernel_rfl)) (by decide) (by decide) (fun K hK => ?_) (fun K hK => ?_)
                            · skip
                              have hcv26 := own_string (P := Try.prog) Try.underlying68 Try.underlying5 Try.underlying9 (Kd.own_of_R HO167.out)
                              refine value_ (w1 := ?_) (v := ?_) (by rfl) rfl ?_ ?_
                              rotate_left 2
                              · go_simp
                                constructor
                                · rfl
                                · rfl
                              clear hcv26
                              refine hK.out _ _ ⟨(blk_cell BK159.out 0).trans rfl, (blk_cell BK159.out 1).trans rfl, (blk_cell BK159.out 2).trans rfl, (blk_cell BK159.out 3).trans rfl, (blk_cell BK159.out 4).trans rfl, (blk_cell BK159.out 5).trans rfl, (blk_cell BK159.out 6).trans rfl, (blk_cell BK159.out 7).trans rfl, (blk_cell BK159.out 8).trans rfl⟩ (fun hHeld => ?_)
                              clear hK K
                              refine norm_ (a' := ?_) ?_ ?_
                              rotate_left
                              · show Act.put _ (some 44) _ = _
                                simp only [Act.put, List.setIfInBounds_toArray, List.set_cons_zero, List.set_cons_succ, i64_w, i32_w]
                                rfl
                              refine pure_ (i := 9) (N := some 45) (v := ?_) (a' := ?_) #[true, true, true, true, true, true, true, true, true, true, true, true, true, false, true, true, true, false, true, true, false, false, false] rfl rfl (any_of HT_.out (by kernel_rfl)) (fun _ _ _ h => h) (Or.inl ⟨by rfl, ?_⟩) ?_ ?_
                              rotate_left
                              · intro w'
                                go_simp
                                with_reducible rfl
                              rotate_left
                              · simp only [Act.put, List.setIfInBounds_toArray, List.set_cons_zero, List.set_cons_succ, i64_w, i32_w]
                                rfl
                              refine pure_ (i := 13) (N := some 49) (v := ?_) (a' := ?_) #[true, true, true, true, true, true, true, true, true, true, true, true, true, true, true, true, true, false, true, true, false, false, false] rfl rfl (any_of HT_.out (by kernel_rfl)) (fun _ _ _ h => h) (Or.inl ⟨by rfl, ?_⟩) ?_ ?_
                              rotate_left
                              · intro w'
                                go_simp
                                with_reducible rfl
                              rotate_left
                              · simp only [Act.put, List.setIfInBounds_toArray, List.set_cons_zero, List.set_cons_succ, i64_w, i32_w]
                                rfl
                              refine pure_ (i := 17) (N := some 53) (v := ?_) (a' := ?_) #[true, true, true, true, true, true, true, true, true, true, true, true, true, true, true, true, true, true, true, true, false, false, false] rfl rfl (any_of HT_.out (by kernel_rfl)) (fun _ _ _ h => h) (Or.inl ⟨by rfl, ?_⟩) ?_ ?_
                              rotate_left
                              · intro w'
                                go_simp
                                with_reducible rfl
                              rotate_left
                              · simp only [Act.put, List.setIfInBounds_toArray, List.set_cons_zero, List.set_cons_succ, i64_w, i32_w]
                                rfl
                              exact norm_ (by first | (simp only [putAll, Act.put, List.setIfInBounds_toArray, List.set_cons_zero, List.set_cons_succ]; done) | (simp only [putAll, Act.put, List.setIfInBounds_toArray, List.set_cons_zero, List.set_cons_succ]; rfl)) (hJ7_8_12_16 (v166) _ ⟨hHeld, (by (with_reducible repeat (first | apply Kd.R_alloc | apply Kd.R_drewN | apply Kd.R_drew)); exact HO167.out), (by (with_reducible repeat (first | refine blk_drewN ?_ _ | refine blk_drew ?_ | refine blk_alloc ?_ _)); exact BK159.out), (by repeat (first | (with_reducible first | exact HB.out | apply below_alloc | apply pw_below_drewN | apply below_drew1 | refine below_set ?_ GE159.out) | exact HB.out))⟩)
                            · skip
                              refine goes_ Try.func56 (by kernel_rfl) rfl #[.int .i64 ((rd_T98 l0 x4_1).f8)] (by rfl) rfl rfl (by (try simp only [List.map_toArray, List.map_cons, List.map_nil]); first | done | rfl | (simp only [List.length_drop, List.length_take]; rfl)) ?_
                              with_reducible refine (aneroidref21_number.calls k1 ((rd_T98 l0 x4_1).f8) t170 _ A14.out).mono ?_
                              rintro e w26 ⟨rfl, hb⟩
                              refine ⟨_, rfl, ?_⟩
                              have n0_ := Aside0.mk (Kd.R_below (by (with_reducible repeat (first | apply Kd.R_alloc | apply Kd.R_drewN | apply Kd.R_drew)); exact HO167.out) hb)
                              have n1_ := Aside0.mk (blk_below (g := gb159) (o := .cells #[.int .i64 ((rd_T98 l0 x4_1).f0), .bool ((rd_T98 l0 x4_1).f1), .bool ((rd_T98 l0 x4_1).f2), .bool ((rd_T98 l0 x4_1).f3), .bool ((rd_T98 l0 x4_1).f4), .bool ((rd_T98 l0 x4_1).f5), .int .i64 ((rd_T98 l0 x4_1).f6), .int .i64 ((rd_T98 l0 x4_1).f7), .int .i64 ((rd_T98 l0 x4_1).f8)] 98 (0, 0)) (by (with_reducible repeat (first | refine blk_drewN ?_ _ | refine blk_drew ?_ | refine blk_alloc ?_ _)); exact BK159.out) hb)
                              have n2_ := Aside0.mk (below_step (by repeat (first | (with_reducible first | exact HB.out | apply below_alloc | apply pw_below_drewN | apply below_drew1 | refine below_set ?_ GE159.out) | exact HB.out)) hb)
                              clear HO167
                              clear BK159
                              clear HB
                              have HO167 := n0_
                              have BK159 := n1_
                              have HB := n2_
                              clear n0_ n1_ n2_
                              (try clear hb)
                              (try clear hb2)
                              (try clear hk)
                              (try clear hi)
                              refine hK.out _ _ ⟨(blk_cell BK159.out 0).trans rfl, (blk_cell BK159.out 1).trans rfl, (blk_cell BK159.out 2).trans rfl, (blk_cell BK159.out 3).trans rfl, (blk_cell BK159.out 4).trans rfl, (blk_cell BK159.out 5).trans rfl, (blk_cell BK159.out 6).trans rfl, (blk_cell BK159.out 7).trans rfl, (blk_cell BK159.out 8).trans rfl⟩ (fun hHeld => ?_)
                              clear hK K
                              refine norm_ (a' := ?_) ?_ ?_
                              rotate_left
                              · show Act.put _ (some 56) _ = _
                                simp only [Act.put, List.setIfInBounds_toArray, List.set_cons_zero, List.set_cons_succ, i64_w, i32_w]
                                rfl
                              exact norm_ (by first | (simp only [putAll, Act.put, List.setIfInBounds_toArray, List.set_cons_zero, List.set_cons_succ]; done) | (simp only [putAll, Act.put, List.setIfInBounds_toArray, List.set_cons_zero, List.set_cons_succ]; rfl)) (hJ7_12_16_20 (v166) _ ⟨hHeld, (by (with_reducible repeat (first | apply Kd.R_alloc | apply Kd.R_drewN | apply Kd.R_drew)); exact HO167.out), (by (with_reducible repeat (first | refine blk_drewN ?_ _ | refine blk_drew ?_ | refine blk_alloc ?_ _)); exact BK159.out), (by repeat (first | (with_reducible first | exact HB.out | apply below_alloc | apply pw_below_drewN | apply below_drew1 | refine below_set ?_ GE159.out) | exact HB.out))⟩)
                        · skip
                          rintro v166 w25 ⟨hS_, h0_, h1_, h2_⟩
                          have n0_ : Aside0 (Kd.R (Kd.int .u8) 5 w25 w.heap.size (fun _ => True) v166 y165) := ⟨h0_⟩
                          have n1_ : Aside0 (w25.heap[gb159]? = some (.cells #[.int .i64 ((rd_T98 l0 x4_1).f0), .bool ((rd_T98 l0 x4_1).f1), .bool ((rd_T98 l0 x4_1).f2), .bool ((rd_T98 l0 x4_1).f3), .bool ((rd_T98 l0 x4_1).f4), .bool ((rd_T98 l0 x4_1).f5), .int .i64 ((rd_T98 l0 x4_1).f6), .int .i64 ((rd_T98 l0 x4_1).f7), .int .i64 ((rd_T98 l0 x4_1).f8)] 98 (0, 0))) := ⟨h1_⟩
                          have n2_ : Aside0 (Below w.heap.size w w25) := ⟨h2_⟩
                          clear BK159
                          clear HB
                          clear h0_ h1_ h2_
                          have HO167 := n0_
                          have BK159 := n1_
                          have HB := n2_
                          clear n0_ n1_ n2_
                          have hHeld : w25.cell? ⟨gb159, 0, none⟩ = some (.int .i64 ((rd_T98 l0 x4_1).f0)) ∧ w25.cell? ⟨gb159, 1, none⟩ = some (.bool ((rd_T98 l0 x4_1).f1)) ∧ w25.cell? ⟨gb159, 2, none⟩ = some (.bool ((rd_T98 l0 x4_1).f2)) ∧ w25.cell? ⟨gb159, 3, none⟩ = some (.bool ((rd_T98 l0 x4_1).f3)) ∧ w25.cell? ⟨gb159, 4, none⟩ = some (.bool ((rd_T98 l0 x4_1).f4)) ∧ w25.cell? ⟨gb159, 5, none⟩ = some (.bool ((rd_T98 l0 x4_1).f5)) ∧ w25.cell? ⟨gb159, 6, none⟩ = some (.int .i64 ((rd_T98 l0 x4_1).f6)) ∧ w25.cell? ⟨gb159, 7, none⟩ = some (.int .i64 ((rd_T98 l0 x4_1).f7)) ∧ w25.cell? ⟨gb159, 8, none⟩ = some (.int .i64 ((rd_T98 l0 x4_1).f8)) := hS_
                          refine norm_ (a' := ?_) ?_ ?_
                          rotate_left
                          · simp only [putAll, Act.put, List.setIfInBounds_toArray, List.set_cons_zero, List.set_cons_succ]
                            rfl
                          refine one_ (i := 16) (N := some 52) #[true, true, true, true, true, true, true, true, true, true, true, true, true, true, true, true, true, false, true, true, false, false, false] rfl rfl (one_of HT_.out (by kernel_rfl)) (by decide) (fun K hK => ?_)
                          refine goes_ Try.func56 (by kernel_rfl) rfl #[.int .i64 ((rd_T98 l0 x4_1).f7)] (by rfl) rfl rfl (by (try simp only [List.map_toArray, List.map_cons, List.map_nil]); first | done | rfl | (simp only [List.length_drop, List.length_take]; rfl)) ?_
                          with_reducible refine (aneroidref21_number.calls k1 ((rd_T98 l0 x4_1).f7) t169 _ A12.out).mono ?_
                          rintro e w26 ⟨rfl, hb⟩
                          refine ⟨_, rfl, ?_⟩
                          have n0_ := Aside0.mk (Kd.R_below (by (with_reducible repeat (first | apply Kd.R_alloc | apply Kd.R_drewN | apply Kd.R_drew)); exact HO167.out) hb)
                          have n1_ := Aside0.mk (blk_below (g := gb159) (o := .cells #[.int .i64 ((rd_T98 l0 x4_1).f0), .bool ((rd_T98 l0 x4_1).f1), .bool ((rd_T98 l0 x4_1).f2), .bool ((rd_T98 l0 x4_1).f3), .bool ((rd_T98 l0 x4_1).f4), .bool ((rd_T98 l0 x4_1).f5), .int .i64 ((rd_T98 l0 x4_1).f6), .int .i64 ((rd_T98 l0 x4_1).f7), .int .i64 ((rd_T98 l0 x4_1).f8)] 98 (0, 0)) (by (with_reducible repeat (first | refine blk_drewN ?_ _ | refine blk_drew ?_ | refine blk_alloc ?_ _)); exact BK159.out) hb)
                          have n2_ := Aside0.mk (below_step (by repeat (first | (with_reducible first | exact HB.out | apply below_alloc | apply pw_below_drewN | apply below_drew1 | refine below_set ?_ GE159.out) | exact HB.out)) hb)
                          clear HO167
                          clear BK159
                          clear HB
                          have HO167 := n0_
                          have BK159 := n1_
                          have HB := n2_
                          clear n0_ n1_ n2_
                          (try clear hb)
                          (try clear hb2)
                          (try clear hk)
                          (try clear hi)
                          refine hK.out _ _ ⟨(blk_cell BK159.out 0).trans rfl, (blk_cell BK159.out 1).trans rfl, (blk_cell BK159.out 2).trans rfl, (blk_cell BK159.out 3).trans rfl, (blk_cell BK159.out 4).trans rfl, (blk_cell BK159.out 5).trans rfl, (blk_cell BK159.out 6).trans rfl, (blk_cell BK159.out 7).trans rfl, (blk_cell BK159.out 8).trans rfl⟩ (fun hHeld => ?_)
                          clear hK K
                          refine norm_ (a' := ?_) ?_ ?_
                          rotate_left
                          · show Act.put _ (some 52) _ = _
                            simp only [Act.put, List.setIfInBounds_toArray, List.set_cons_zero, List.set_cons_succ, i64_w, i32_w]
                            rfl
                          refine pure_ (i := 17) (N := some 53) (v := ?_) (a' := ?_) #[true, true, true, true, true, true, true, true, true, true, true, true, true, true, true, true, true, true, true, true, false, false, false] rfl rfl (any_of HT_.out (by kernel_rfl)) (fun _ _ _ h => h) (Or.inl ⟨by rfl, ?_⟩) ?_ ?_
                          rotate_left
                          · intro w'
                            go_simp
                            with_reducible rfl
                          rotate_left
                          · simp only [Act.put, List.setIfInBounds_toArray, List.set_cons_zero, List.set_cons_succ, i64_w, i32_w]
                            rfl
                          exact norm_ (by first | (simp only [putAll, Act.put, List.setIfInBounds_toArray, List.set_cons_zero, List.set_cons_succ]; done) | (simp only [putAll, Act.put, List.setIfInBounds_toArray, List.set_cons_zero, List.set_cons_succ]; rfl)) (hJ7_8_12_16 (v166) _ ⟨hHeld, (by (with_reducible repeat (first | apply Kd.R_alloc | apply Kd.R_drewN | apply Kd.R_drew)); exact HO167.out), (by (with_reducible repeat (first | refine blk_drewN ?_ _ | refine blk_drew ?_ | refine blk_alloc ?_ _)); exact BK159.out), (by repeat (first | (with_reducible first | exact HB.out | apply below_alloc | apply pw_below_drewN | apply below_drew1 | refine below_set ?_ GE159.out) | exact HB.out))⟩)
                      · skip
                        rintro v166 w26 ⟨hS_, h0_, h1_, h2_⟩
                        have n0_ : Aside0 (Kd.R (Kd.int .u8) 5 w26 w.heap.size (fun _ => True) v166 y165) := ⟨h0_⟩
                        have n1_ : Aside0 (w26.heap[gb159]? = some (.cells #[.int .i64 ((rd_T98 l0 x4_1).f0), .bool ((rd_T98 l0 x4_1).f1), .bool ((rd_T98 l0 x4_1).f2), .bool ((rd_T98 l0 x4_1).f3), .bool ((rd_T98 l0 x4_1).f4), .bool ((rd_T98 l0 x4_1).f5), .int .i64 ((rd_T98 l0 x4_1).f6), .int .i64 ((rd_T98 l0 x4_1).f7), .int .i64 ((rd_T98 l0 x4_1).f8)] 98 (0, 0))) := ⟨h1_⟩
                        have n2_ : Aside0 (Below w.heap.size w w26) := ⟨h2_⟩
                        clear BK159
                        clear HB
                        clear h0_ h1_ h2_
                        have HO167 := n0_
                        have BK159 := n1_
                        have HB := n2_
                        clear n0_ n1_ n2_
                        have hHeld : w26.cell? ⟨gb159, 0, none⟩ = some (.int .i64 ((rd_T98 l0 x4_1).f0)) ∧ w26.cell? ⟨gb159, 1, none⟩ = some (.bool ((rd_T98 l0 x4_1).f1)) ∧ w26.cell? ⟨gb159, 2, none⟩ = some (.bool ((rd_T98 l0 x4_1).f2)) ∧ w26.cell? ⟨gb159, 3, none⟩ = some (.bool ((rd_T98 l0 x4_1).f3)) ∧ w26.cell? ⟨gb159, 4, none⟩ = some (.bool ((rd_T98 l0 x4_1).f4)) ∧ w26.cell? ⟨gb159, 5, none⟩ = some (.bool ((rd_T98 l0 x4_1).f5)) ∧ w26.cell? ⟨gb159, 6, none⟩ = some (.int .i64 ((rd_T98 l0 x4_1).f6)) ∧ w26.cell? ⟨gb159, 7, none⟩ = some (.int .i64 ((rd_T98 l0 x4_1).f7)) ∧ w26.cell? ⟨gb159, 8, none⟩ = some (.int .i64 ((rd_T98 l0 x4_1).f8)) := hS_
                        refine norm_ (a' := ?_) ?_ ?_
                        rotate_left
                        · simp only [putAll, Act.put, List.setIfInBounds_toArray, List.set_cons_zero, List.set_cons_succ]
                          rfl
                        refine one_ (i := 8) (N := some 44) #[true, true, true, true, true, true, true, true, true, false, true, true, true, false, true, true, true, false, true, true, true, false, false] rfl rfl (one_of HT_.out (by kernel_rfl)) (by decide) (fun K hK => ?_)
                        have hcv27 := own_string (P := Try.prog) Try.underlying68 Try.underlying5 Try.underlying9 (Kd.own_of_R HO167.out)
                        refine value_ (w1 := ?_) (v := ?_) (by rfl) rfl ?_ ?_
                        rotate_left 2
                        · go_simp
                          constructor
                          · rfl
                          · rfl
                        clear hcv27
                        refine hK.out _ _ ⟨(blk_cell BK159.out 0).trans rfl, (blk_cell BK159.out 1).trans rfl, (blk_cell BK159.out 2).trans rfl, (blk_cell BK159.out 3).trans rfl, (blk_cell BK159.out 4).trans rfl, (blk_cell BK159.out 5).trans rfl, (blk_cell BK159.out 6).trans rfl, (blk_cell BK159.out 7).trans rfl, (blk_cell BK159.out 8).trans rfl⟩ (fun hHeld => ?_)
                        clear hK K
                        refine norm_ (a' := ?_) ?_ ?_
                        rotate_left
                        · show Act.put _ (some 44) _ = _
                          simp only [Act.put, List.setIfInBounds_toArray, List.set_cons_zero, List.set_cons_succ, i64_w, i32_w]
                          rfl
                        refine pure_ (i := 9) (N := some 45) (v := ?_) (a' := ?_) #[true, true, true, true, true, true, true, true, true, true, true, true, true, false, true, true, true, false, true, true, true, false, false] rfl rfl (any_of HT_.out (by kernel_rfl)) (fun _ _ _ h => h) (Or.inl ⟨by rfl, ?_⟩) ?_ ?_
                        rotate_left
                        · intro w'
                          go_simp
                          with_reducible rfl
                        rotate_left
                        · simp only [Act.put, List.setIfInBounds_toArray, List.set_cons_zero, List.set_cons_succ, i64_w, i32_w]
                          rfl
                        refine pure_ (i := 13) (N := some 49) (v := ?_) (a' := ?_) #[true, true, true, true, true, true, true, true, true, true, true, true, true, true, true, true, true, false, true, true, true, false, false] rfl rfl (any_of HT_.out (by kernel_rfl)) (fun _ _ _ h => h) (Or.inl ⟨by rfl, ?_⟩) ?_ ?_
                        rotate_left
                        · intro w'
                          go_simp
                          with_reducible rfl
                        rotate_left
                        · simp only [Act.put, List.setIfInBounds_toArray, List.set_cons_zero, List.set_cons_succ, i64_w, i32_w]
                          rfl
                        refine pure_ (i := 17) (N := some 53) (v := ?_) (a' := ?_) #[true, true, true, true, true, true, true, true, true, true, true, true, true, true, true, true, true, true, true, true, true, false, false] rfl rfl (any_of HT_.out (by kernel_rfl)) (fun _ _ _ h => h) (Or.inl ⟨by rfl, ?_⟩) ?_ ?_
                        rotate_left
                        · intro w'
                          go_simp
                          with_reducible rfl
                        rotate_left
                        · simp only [Act.put, List.setIfInBounds_toArray, List.set_cons_zero, List.set_cons_succ, i64_w, i32_w]
                          rfl
                        exact norm_ (by first | (simp only [putAll, Act.put, List.setIfInBounds_toArray, List.set_cons_zero, List.set_cons_succ]; done) | (simp only [putAll, Act.put, List.setIfInBounds_toArray, List.set_cons_zero, List.set_cons_succ]; rfl)) (hJ7_8_12_16_20 (v166) _ ⟨hHeld, (by (with_reducible repeat (first | apply Kd.R_alloc | apply Kd.R_drewN | apply Kd.R_drew)); exact HO167.out), (by (with_reducible repeat (first | refine blk_drewN ?_ _ | refine blk_drew ?_ | refine blk_alloc ?_ _)); exact BK159.out), (by repeat (first | (with_reducible first | exact HB.out | apply below_alloc | apply pw_below_drewN | apply below_drew1 | refine below_set ?_ GE159.out) | exact HB.out))⟩)
                    · skip
                      rintro v166 w26 ⟨hS_, h0_, h1_, h2_⟩
                      have n0_ : Aside0 (Kd.R (Kd.int .u8) 5 w26 w.heap.size (fun _ => True) v166 y165) := ⟨h0_⟩
                      have n1_ : Aside0 (w26.heap[gb159]? = some (.cells #[.int .i64 ((rd_T98 l0 x4_1).f0), .bool ((rd_T98 l0 x4_1).f1), .bool ((rd_T98 l0 x4_1).f2), .bool ((rd_T98 l0 x4_1).f3), .bool ((rd_T98 l0 x4_1).f4), .bool ((rd_T98 l0 x4_1).f5), .int .i64 ((rd_T98 l0 x4_1).f6), .int .i64 ((rd_T98 l0 x4_1).f7), .int .i64 ((rd_T98 l0 x4_1).f8)] 98 (0, 0))) := ⟨h1_⟩
                      have n2_ : Aside0 (Below w.heap.size w w26) := ⟨h2_⟩
                      clear BK159
                      clear HB
                      clear h0_ h1_ h2_
                      have HO167 := n0_
                      have BK159 := n1_
                      have HB := n2_
                      clear n0_ n1_ n2_
                      have hHeld : w26.cell? ⟨gb159, 0, none⟩ = some (.int .i64 ((rd_T98 l0 x4_1).f0)) ∧ w26.cell? ⟨gb159, 1, none⟩ = some (.bool ((rd_T98 l0 x4_1).f1)) ∧ w26.cell? ⟨gb159, 2, none⟩ = some (.bool ((rd_T98 l0 x4_1).f2)) ∧ w26.cell? ⟨gb159, 3, none⟩ = some (.bool ((rd_T98 l0 x4_1).f3)) ∧ w26.cell? ⟨gb159, 4, none⟩ = some (.bool ((rd_T98 l0 x4_1).f4)) ∧ w26.cell? ⟨gb159, 5, none⟩ = some (.bool ((rd_T98 l0 x4_1).f5)) ∧ w26.cell? ⟨gb159, 6, none⟩ = some (.int .i64 ((rd_T98 l0 x4_1).f6)) ∧ w26.cell? ⟨gb159, 7, none⟩ = some (.int .i64 ((rd_T98 l0 x4_1).f7)) ∧ w26.cell? ⟨gb159, 8, none⟩ = some (.int .i64 ((rd_T98 l0 x4_1).f8)) := hS_
                      refine norm_ (a' := ?_) ?_ ?_
                      rotate_left
                      · simp only [putAll, Act.put, List.setIfInBounds_toArray, List.set_cons_zero, List.set_cons_succ]
                        rfl
                      refine one_ (i := 20) (N := some 56) #[true, true, true, true, true, true, true, true, true, true, true, true, true, true, true, true, true, true, true, true, true, false, false] rfl rfl (one_of HT_.out (by kernel_rfl)) (by decide) (fun K hK => ?_)
                      refine goes_ Try.func56 (by kernel_rfl) rfl #[.int .i64 ((rd_T98 l0 x4_1).f8)] (by rfl) rfl rfl (by (try simp only [List.map_toArray, List.map_cons, List.map_nil]); first | done | rfl | (simp only [List.length_drop, List.length_take]; rfl)) ?_
                      with_reducible refine (aneroidref21_number.calls k1 ((rd_T98 l0 x4_1).f8) t170 _ A14.out).mono ?_
                      rintro e w27 ⟨rfl, hb⟩
                      refine ⟨_, rfl, ?_⟩
                      have n0_ := Aside0.mk (Kd.R_below (by (with_reducible repeat (first | apply Kd.R_alloc | apply Kd.R_drewN | apply Kd.R_drew)); exact HO167.out) hb)
                      have n1_ := Aside0.mk (blk_below (g := gb159) (o := .cells #[.int .i64 ((rd_T98 l0 x4_1).f0), .bool ((rd_T98 l0 x4_1).f1), .bool ((rd_T98 l0 x4_1).f2), .bool ((rd_T98 l0 x4_1).f3), .bool ((rd_T98 l0 x4_1).f4), .bool ((rd_T98 l0 x4_1).f5), .int .i64 ((rd_T98 l0 x4_1).f6), .int .i64 ((rd_T98 l0 x4_1).f7), .int .i64 ((rd_T98 l0 x4_1).f8)] 98 (0, 0)) (by (with_reducible repeat (first | refine blk_drewN ?_ _ | refine blk_drew ?_ | refine blk_alloc ?_ _)); exact BK159.out) hb)
                      have n2_ := Aside0.mk (below_step (by repeat (first | (with_reducible first | exact HB.out | apply below_alloc | apply pw_below_drewN | apply below_drew1 | refine below_set ?_ GE159.out) | exact HB.out)) hb)
                      clear HO167
                      clear BK159
                      clear HB
                      have HO167 := n0_
                      have BK159 := n1_
                      have HB := n2_
                      clear n0_ n1_ n2_
                      (try clear hb)
                      (try clear hb2)
                      (try clear hk)
                      (try clear hi)
                      refine hK.out _ _ ⟨(blk_cell BK159.out 0).trans rfl, (blk_cell BK159.out 1).trans rfl, (blk_cell BK159.out 2).trans rfl, (blk_cell BK159.out 3).trans rfl, (blk_cell BK159.out 4).trans rfl, (blk_cell BK159.out 5).trans rfl, (blk_cell BK159.out 6).trans rfl, (blk_cell BK159.out 7).trans rfl, (blk_cell BK159.out 8).trans rfl⟩ (fun hHeld => ?_)
                      clear hK K
                      refine norm_ (a' := ?_) ?_ ?_
                      rotate_left
                      · show Act.put _ (some 56) _ = _
                        simp only [Act.put, List.setIfInBounds_toArray, List.set_cons_zero, List.set_cons_succ, i64_w, i32_w]
                        rfl
                      exact norm_ (by first | (simp only [putAll, Act.put, List.setIfInBounds_toArray, List.set_cons_zero, List.set_cons_succ]; done) | (simp only [putAll, Act.put, List.setIfInBounds_toArray, List.set_cons_zero, List.set_cons_succ]; rfl)) (hJ7_8_12_16_20 (v166) _ ⟨hHeld, (by (with_reducible repeat (first | apply Kd.R_alloc | apply Kd.R_drewN | apply Kd.R_drew)); exact HO167.out), (by (with_reducible repeat (first | refine blk_drewN ?_ _ | refine blk_drew ?_ | refine blk_alloc ?_ _)); exact BK159.out), (by repeat (first | (with_reducible first | exact HB.out | apply below_alloc | apply pw_below_drewN | apply below_drew1 | refine below_set ?_ GE159.out) | exact HB.out))⟩)
                  rintro v166 w27 ⟨hS_, h0_, h1_, h2_⟩
                  have n0_ : Aside0 (Kd.R (Kd.int .u8) 5 w27 w.heap.size (fun _ => True) v166 y165) := ⟨h0_⟩
                  have n1_ : Aside0 (w27.heap[gb159]? = some (.cells #[.int .i64 ((rd_T98 l0 x4_1).f0), .bool ((rd_T98 l0 x4_1).f1), .bool ((rd_T98 l0 x4_1).f2), .bool ((rd_T98 l0 x4_1).f3), .bool ((rd_T98 l0 x4_1).f4), .bool ((rd_T98 l0 x4_1).f5), .int .i64 ((rd_T98 l0 x4_1).f6), .int .i64 ((rd_T98 l0 x4_1).f7), .int .i64 ((rd_T98 l0 x4_1).f8)] 98 (0, 0))) := ⟨h1_⟩
                  have n2_ : Aside0 (Below w.heap.size w w27) := ⟨h2_⟩
                  clear BK159
                  clear HB
                  clear h0_ h1_ h2_
                  have HO167 := n0_
                  have BK159 := n1_
                  have HB := n2_
                  clear n0_ n1_ n2_
                  have hHeld : w27.cell? ⟨gb159, 0, none⟩ = some (.int .i64 ((rd_T98 l0 x4_1).f0)) ∧ w27.cell? ⟨gb159, 1, none⟩ = some (.bool ((rd_T98 l0 x4_1).f1)) ∧ w27.cell? ⟨gb159, 2, none⟩ = some (.bool ((rd_T98 l0 x4_1).f2)) ∧ w27.cell? ⟨gb159, 3, none⟩ = some (.bool ((rd_T98 l0 x4_1).f3)) ∧ w27.cell? ⟨gb159, 4, none⟩ = some (.bool ((rd_T98 l0 x4_1).f4)) ∧ w27.cell? ⟨gb159, 5, none⟩ = some (.bool ((rd_T98 l0 x4_1).f5)) ∧ w27.cell? ⟨gb159, 6, none⟩ = some (.int .i64 ((rd_T98 l0 x4_1).f6)) ∧ w27.cell? ⟨gb159, 7, none⟩ = some (.int .i64 ((rd_T98 l0 x4_1).f7)) ∧ w27.cell? ⟨gb159, 8, none⟩ = some (.int .i64 ((rd_T98 l0 x4_1).f8)) := hS_
                  refine norm_ (a' := ?_) ?_ ?_
                  rotate_left
                  · simp only [putAll, Act.put, List.setIfInBounds_toArray, List.set_cons_zero, List.set_cons_succ]
                    rfl
                  refine pure_ (i := 21) (N := some 57) (v := ?_) (a' := ?_) #[true, true, true, true, true, true, true, true, true, true, true, true, true, true, true, true, true, true, true, true, true, true, false] rfl rfl (any_of HT_.out (by kernel_rfl)) (fun _ _ _ h => h) (Or.inl ⟨by rfl, ?_⟩) ?_ ?_
                  rotate_left
                  · intro w'
                    go_simp
                    with_reducible rfl
                  rotate_left
                  · simp only [Act.put, List.setIfInBounds_toArray, List.set_cons_zero, List.set_cons_succ, i64_w, i32_w]
                    rfl
                  refine pure_ (i := 22) (N := some 3) (v := ?_) (a' := ?_) #[true, true, true, true, true, true, true, true, true, true, true, true, true, true, true, true, true, true, true, true, true, true, true] rfl rfl (any_of HT_.out (by kernel_rfl)) (fun _ _ _ h => h) (Or.inl ⟨by rfl, ?_⟩) ?_ ?_
                  rotate_left
                  · intro w'
                    go_simp
                    with_reducible rfl
                  rotate_left
                  · simp only [Act.put, List.setIfInBounds_toArray, List.set_cons_zero, List.set_cons_succ, i64_w, i32_w]
                    rfl
                  refine done_ (done_of HT_.out (by kernel_rfl)) ?_
                  try go_wp2
                  go_roundg k1
                  case measure => have := HK1.out; omega
                  case rel => exact ⟨((((x3_1 ++ (strOfNums y165)) ++ t168) ++ t169) ++ t170), (wrap64 (x4_1 + 1)), (by first | rfl | (simp; done) | (simp [*]; done)), (by first | rfl | (simp; done) | (simp [*]; done)), H', ⟨by have := HK1.out; omega⟩, ⟨by repeat (first | (with_reducible first | exact HB.out | apply below_alloc | apply pw_below_drewN | apply below_drew1 | refine below_set ?_ GE159.out) | exact HB.out)⟩⟩
                · rw [if_neg c15] at H
                  exact absurd H (by simp)
              · rw [if_neg c13] at H
                exact absurd H (by simp)
            · rw [if_neg c11] at H
              exact absurd H (by simp)
          · rw [if_neg c9] at H
            exact absurd H (by simp)
        · rw [if_neg c3] at H
          exact absurd H (by simp)
      · rw [if_neg c2] at H
        have c2b0 : decide (x4_1 < (l0.length : Int)) = false := decide_eq_false c2
        clear c2
        obtain rfl := Option.some.inj H
        go_wp2
        go_ret
        exact ⟨by first | rfl | (simp [errW_none, errW_some] <;> rfl) | (simp [*, errW_none, errW_some] <;> rfl), by repeat (first | (with_reducible first | exact HB.out | apply below_alloc | apply pw_below_drewN | apply below_drew1) | exact HB.out)⟩

end Go.Proofs.Ytoknlaknffpigaa.PTapeTold
