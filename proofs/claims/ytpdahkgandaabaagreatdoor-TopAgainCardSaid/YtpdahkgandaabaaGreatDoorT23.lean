/- A part of the proof of TopAgain, where the package's tables hold what their initialisers lay. -/
import Derived.Deep.Cut
import Derived.Deep.CutRange
import Derived.Test.YtpdahkgandaabaaGreatDoorT01
import Derived.Test.YtpdahkgandaabaaGreatDoorT22
namespace Go.Proofs.YtpdahkgandaabaaGreatDoor.PDoc
open Go.RowKit Go.Proofs.YtpdahkgandaabaaGreatDoorW.PrintWords Go.Proofs.YtpdahkgandaabaaGreatDoorW.PrintLast Go.Proofs.YtpdahkgandaabaaGreatDoorW.PrintMore
attribute [local go_sem] max2_int min2_int max_two min_two max_three min_three max_four min_four
set_option linter.unusedVariables false
set_option linter.unusedSimpArgs false
def aneroidref01_less.l0 : Nat → List Int → List Int → Int → Option (Bool)
 | 0, _, _, _ => none
 | k + 1, x0, x1, x5 => if x5 ≥ 0 then (if 0 ≤ x5 then (if x5 < (x0.length : Int) then (if x5 < (x1.length : Int) then (if (rd x0 x5) = (rd x1 x5) then (aneroidref01_less.l0 k x0 x1 (wrap64 (x5 - 1))) else (some (decide ((rd x0 x5) < (rd x1 x5))))) else (none)) else (none)) else (none)) else (some false)
def aneroidref01_less.f (k : Nat) (l0 : List Int) (l1 : List Int) : Option (Bool) := if (l0.length : Int) = (l1.length : Int) then (aneroidref01_less.l0 k l0 l1 (wrap64 ((l0.length : Int) - 1))) else (some (decide ((l0.length : Int) < (l1.length : Int))))
set_option maxHeartbeats 8000000 in
set_option maxRecDepth 100000 in
theorem aneroidref01_less.calls (k : Nat) (A0 : Option Addr) (c0 : Nat) (l0 : List Int) (A1 : Option Addr) (c1 : Nat) (l1 : List Int) (r : Bool) (w : World) (hr0 : Kd.C (Kd.int .u64) w A0 l0.length l0) (hc0 : l0.length ≤ c0) (hr1 : Kd.C (Kd.int .u64) w A1 l1.length l1) (hc1 : l1.length ≤ c1) (h : aneroidref01_less.f k l0 l1 = some r) :
  Calls Tryz.prog 150 #[.slice A0 l0.length c0, .slice A1 l1.length c1] w fun e w' => e = .returned (.bool r) ∧ Drawn0 w w' := by
 have HR0 := am hr0
 have HC0 := am hc0
 clear hr0 hc0
 have HR1 := am hr1
 have HC1 := am hc1
 clear hr1 hc1
 have H : (if (l0.length : Int) = (l1.length : Int) then (aneroidref01_less.l0 k l0 l1 (wrap64 ((l0.length : Int) - 1))) else (some (decide ((l0.length : Int) < (l1.length : Int))))) = some r := h
 clear h
 by_cases c3 : (l0.length : Int) = (l1.length : Int)
 ·
  rw [if_pos c3] at H
  have c3b0 : ((l0.length : Int) == (l1.length : Int)) = true := beq_iff_eq.mpr c3
  have c3b1 : ((l0.length : Int) != (l1.length : Int)) = false := bne_eq_false_iff_eq.mpr c3
  have c3b2 : (l0.length == l1.length) = true := by first | simpa using c3 | (simp at c3 ⊢; omega)
  clear c3
  have H' := am H
  clear H
  go_enter Tryz.func150, Tryz.ntmps150
  go_wp2
  repeat (go_quiet (fail); try go_wp2)
  go_loopg [5] k (fun kq v5 w' => ∃ (x5_1 : Int), v5 = .int .i64 x5_1 ∧ Aside0 (aneroidref01_less.l0 kq l0 l1 x5_1 = some r) ∧ Aside0 (kq ≤ k) ∧ Drawn0 w w')
  case atStart => exact ⟨(wrap64 ((l0.length : Int) - 1)), (by first | rfl | (simp; done) | (simp [*]; done)), H', ⟨Nat.le_refl _⟩, by repeat (first | exact Drawn0.refl _ | apply Drawn0.step)⟩
  case round =>
   clear H'
   try clear c1
   try clear p2
   try clear c3
   try clear c3b0
   try clear c3b1
   try clear c3b2
   obtain ⟨x5_1, rfl, HA, HK1, ⟨m1, rfl⟩⟩ := hrel
   cases gk with
   | zero => exact absurd HA.out (by simp [aneroidref01_less.l0])
   | succ k1 =>
    have H := HA.out
    clear HA
    simp only [aneroidref01_less.l0] at H
    by_cases c4 : x5_1 ≥ 0
    ·
     rw [if_pos c4] at H
     have c4b0 : decide (0 ≤ x5_1) = true := decide_eq_true c4
     clear c4
     by_cases c5 : 0 ≤ x5_1
     ·
      rw [if_pos c5] at H
      have c5b0 : decide (0 ≤ x5_1) = true := decide_eq_true c5
      clear c5
      by_cases c6 : x5_1 < (l0.length : Int)
      ·
       rw [if_pos c6] at H
       have c6b0 : decide (x5_1 < (l0.length : Int)) = true := decide_eq_true c6
       clear c6
       by_cases c7 : x5_1 < (l1.length : Int)
       ·
        rw [if_pos c7] at H
        have c7b0 : decide (x5_1 < (l1.length : Int)) = true := decide_eq_true c7
        clear c7
        by_cases c8 : (rd l0 x5_1) = (rd l1 x5_1)
        ·
         rw [if_pos c8] at H
         have c8b0 : ((rd l0 x5_1) == (rd l1 x5_1)) = true := beq_iff_eq.mpr c8
         have c8b1 : ((rd l0 x5_1) != (rd l1 x5_1)) = false := bne_eq_false_iff_eq.mpr c8
         clear c8
         have H' := am H
         clear H
         have p172 : 0 ≤ (x5_1 : Int) := of_decide_eq_true (by first | (with_reducible assumption) | assumption)
         have q172 : x5_1 < (l0.length : Int) := of_decide_eq_true (by first | (with_reducible assumption) | assumption)
         obtain ⟨ad172, e172, hx172_0⟩ := Kd.at_int HR0.out x5_1 p172 q172
         cases e172
         replace p172 := eq_true p172
         replace q172 := eq_true q172
         have p173 : 0 ≤ (x5_1 : Int) := of_decide_eq_true (by first | (with_reducible assumption) | assumption)
         have q173 : x5_1 < (l1.length : Int) := of_decide_eq_true (by first | (with_reducible assumption) | assumption)
         obtain ⟨ad173, e173, hx173_0⟩ := Kd.at_int HR1.out x5_1 p173 q173
         cases e173
         replace p173 := eq_true p173
         replace q173 := eq_true q173
         go_wp2
         repeat (go_quiet (fail); try go_wp2)
         go_roundg k1
         case measure => have := HK1.out; omega
         case rel => exact ⟨(wrap64 (x5_1 - 1)), (by first | rfl | (simp; done) | (simp [*]; done)), H', ⟨by have := HK1.out; omega⟩, by repeat (first | exact Drawn0.refl _ | apply Drawn0.step)⟩
        rw [if_neg c8] at H
        have c8b0 : ((rd l0 x5_1) == (rd l1 x5_1)) = false := beq_eq_false_iff_ne.mpr c8
        have c8b1 : ((rd l0 x5_1) != (rd l1 x5_1)) = true := bne_iff_ne.mpr c8
        obtain rfl := Option.some.inj H
        have p172 : 0 ≤ (x5_1 : Int) := of_decide_eq_true (by first | (with_reducible assumption) | assumption)
        have q172 : x5_1 < (l0.length : Int) := of_decide_eq_true (by first | (with_reducible assumption) | assumption)
        obtain ⟨ad172, e172, hx172_0⟩ := Kd.at_int HR0.out x5_1 p172 q172
        cases e172
        replace p172 := eq_true p172
        replace q172 := eq_true q172
        have p173 : 0 ≤ (x5_1 : Int) := of_decide_eq_true (by first | (with_reducible assumption) | assumption)
        have q173 : x5_1 < (l1.length : Int) := of_decide_eq_true (by first | (with_reducible assumption) | assumption)
        obtain ⟨ad173, e173, hx173_0⟩ := Kd.at_int HR1.out x5_1 p173 q173
        cases e173
        replace p173 := eq_true p173
        replace q173 := eq_true q173
        have p174 : 0 ≤ (x5_1 : Int) := of_decide_eq_true (by first | (with_reducible assumption) | assumption)
        have q174 : x5_1 < (l0.length : Int) := of_decide_eq_true (by first | (with_reducible assumption) | assumption)
        obtain ⟨ad174, e174, hx174_0⟩ := Kd.at_int HR0.out x5_1 p174 q174
        obtain rfl : ad172 = ad174 := (by injection e174)
        replace p174 := eq_true p174
        replace q174 := eq_true q174
        have p175 : 0 ≤ (x5_1 : Int) := of_decide_eq_true (by first | (with_reducible assumption) | assumption)
        have q175 : x5_1 < (l1.length : Int) := of_decide_eq_true (by first | (with_reducible assumption) | assumption)
        obtain ⟨ad175, e175, hx175_0⟩ := Kd.at_int HR1.out x5_1 p175 q175
        obtain rfl : ad173 = ad175 := (by injection e175)
        replace p175 := eq_true p175
        replace q175 := eq_true q175
        go_wp2
        repeat (go_quiet (fail); try go_wp2)
        go_ret
        exact f_0
       rw [if_neg c7] at H
       exact absurd H (by simp)
      rw [if_neg c6] at H
      exact absurd H (by simp)
     rw [if_neg c5] at H
     exact absurd H (by simp)
    rw [if_neg c4] at H
    have c4b0 : decide (0 ≤ x5_1) = false := decide_eq_false c4
    clear c4
    obtain rfl := Option.some.inj H
    go_wp2
    repeat (go_quiet (fail); try go_wp2)
    go_ret
    exact f_0
 rw [if_neg c3] at H
 have c3b0 : ((l0.length : Int) == (l1.length : Int)) = false := beq_eq_false_iff_ne.mpr c3
 have c3b1 : ((l0.length : Int) != (l1.length : Int)) = true := bne_iff_ne.mpr c3
 have c3b2 : (l0.length == l1.length) = false := by first | simpa using c3 | (simp at c3 ⊢; omega)
 obtain rfl := Option.some.inj H
 go_enter Tryz.func150, Tryz.ntmps150
 go_wp2
 repeat (go_quiet (fail); try go_wp2)
 go_ret
 exact f_0
def aneroidref01_rest.l0 : Nat → List Int → List Int → List Int → Int → Int → Option (List Int)
 | 0, _, _, _, _, _ => none
 | k + 1, x0, x1, x5, x6, x7 => if x7 < (x0.length : Int) then (if 0 ≤ x7 then ((aneroidref01_digit.f x1 x7).bind fun t180 => (if x5.length < 17592186044416 then (aneroidref01_rest.l0 k x0 x1 (x5 ++ [Int.tmod (IntKind.u64.wrap ((IntKind.u64.wrap ((IntKind.u64.wrap (65536 + (rd x0 x7))) - t180)) - x6)) 65536]) (IntKind.u64.wrap (1 - (IntKind.u64.wrap (Int.tdiv (IntKind.u64.wrap ((IntKind.u64.wrap ((IntKind.u64.wrap (65536 + (rd x0 x7))) - t180)) - x6)) 65536)))) (wrap64 (x7 + 1))) else (none))) else (none)) else (some x5)
def aneroidref01_rest.f (k : Nat) (l0 : List Int) (l1 : List Int) : Option (List Int) := aneroidref01_rest.l0 k l0 l1 (([] : List Int)) 0 0
set_option maxHeartbeats 8000000 in
set_option maxRecDepth 100000 in
theorem aneroidref01_rest.calls (k : Nat) (A0 : Option Addr) (c0 : Nat) (l0 : List Int) (A1 : Option Addr) (c1 : Nat) (l1 : List Int) (r : List Int) (w : World) (hr0 : Kd.C (Kd.int .u64) w A0 l0.length l0) (hc0 : l0.length ≤ c0) (hr1 : Kd.C (Kd.int .u64) w A1 l1.length l1) (hc1 : l1.length ≤ c1) (h : aneroidref01_rest.f k l0 l1 = some r) :
  Calls Tryz.prog 151 #[.slice A0 l0.length c0, .slice A1 l1.length c1] w fun e w' => ∃ v0_ : Value, e = .returned (v0_) ∧ Kd.R (Kd.int .u64) 122 w' w.heap.size (fun _ => True) v0_ r ∧ Below w.heap.size w w' := by
 have HR0 := am hr0
 have HC0 := am hc0
 clear hr0 hc0
 have HR1 := am hr1
 have HC1 := am hc1
 clear hr1 hc1
 have HB := am (Below.refl w.heap.size w)
 have H : (aneroidref01_rest.l0 k l0 l1 (([] : List Int)) 0 0) = some r := h
 clear h
 obtain ⟨y176, hy176⟩ : ∃ y_ : List Int, y_ = (([] : List Int)) := ⟨_, rfl⟩
 replace H : (aneroidref01_rest.l0 k l0 l1 y176 0 0) = some r := by first | (rw [hy176]; with_reducible exact H) | (have H2_ := (Option.bind_some _ _).symm.trans H; rw [hy176]; with_reducible exact H2_) | (have H2_ := (Option.bind_some _ _).symm.trans H; with_reducible exact H2_) | with_reducible exact H | (rw [hy176]; exact H) | exact H
 have Ny176 := am hy176
 clear hy176
 have H' := am H
 clear H
 go_enter Tryz.func151, Tryz.ntmps151
 go_wp2_with (first | ((with_reducible refine gate_dst (N := 9) rfl ?_); refine Kd.R_lit (Kd.int .u64) _ 122 ?hg (N := 9) ?hd (xs := ([] : List Int)) (inner := []) (ok := fun _ => True) (okp := fun _ => True) ?hr ?hp (fun _ hk => hk) trivial (Below.refl _ _) (Nat.le_refl _) (by simp) ?_; (case hd => rfl); (case hg => rfl); (case hr => first | (go_simp; done) | (go_simp; rfl)); (case hp => exact (Reps.none _ _)); intro v177 w3 ho4 hb hg_ hnew_; clear hg_ hnew_; (first | rw [← Ny176.out] at ho4 | (simp only [Int.reduceToNat] at ho4; rw [← Ny176.out] at ho4)); have n0_ := am (Kd.R_lower ho4 (below_size (b_R))); have n1_ := am (below_step (b_R) hb); clear HB; have HO178 := n0_; have HB := n1_; clear n0_ n1_; clear hb ho4))
 repeat (go_quiet (first | ((with_reducible refine gate_dst (N := 9) rfl ?_); refine Kd.R_lit (Kd.int .u64) _ 122 ?hg (N := 9) ?hd (xs := ([] : List Int)) (inner := []) (ok := fun _ => True) (okp := fun _ => True) ?hr ?hp (fun _ hk => hk) trivial (Below.refl _ _) (Nat.le_refl _) (by simp) ?_; (case hd => rfl); (case hg => rfl); (case hr => first | (go_simp; done) | (go_simp; rfl)); (case hp => exact (Reps.none _ _)); intro v177 w3 ho4 hb hg_ hnew_; clear hg_ hnew_; (first | rw [← Ny176.out] at ho4 | (simp only [Int.reduceToNat] at ho4; rw [← Ny176.out] at ho4)); have n0_ := am (Kd.R_lower ho4 (below_size (b_R))); have n1_ := am (below_step (b_R) hb); clear HB; have HO178 := n0_; have HB := n1_; clear n0_ n1_; clear hb ho4)); try go_wp2_with (first | ((with_reducible refine gate_dst (N := 9) rfl ?_); refine Kd.R_lit (Kd.int .u64) _ 122 ?hg (N := 9) ?hd (xs := ([] : List Int)) (inner := []) (ok := fun _ => True) (okp := fun _ => True) ?hr ?hp (fun _ hk => hk) trivial (Below.refl _ _) (Nat.le_refl _) (by simp) ?_; (case hd => rfl); (case hg => rfl); (case hr => first | (go_simp; done) | (go_simp; rfl)); (case hp => exact (Reps.none _ _)); intro v177 w3 ho4 hb hg_ hnew_; clear hg_ hnew_; (first | rw [← Ny176.out] at ho4 | (simp only [Int.reduceToNat] at ho4; rw [← Ny176.out] at ho4)); have n0_ := am (Kd.R_lower ho4 (below_size (b_R))); have n1_ := am (below_step (b_R) hb); clear HB; have HO178 := n0_; have HB := n1_; clear n0_ n1_; clear hb ho4)))
 go_loopg [5, 6, 7] k (fun kq v5 v6 v7 w' => ∃ (x5_1 : List Int) (x6_1 : Int) (x7_1 : Int), v6 = .int .u64 x6_1 ∧ v7 = .int .i64 x7_1 ∧ Aside0 (aneroidref01_rest.l0 kq l0 l1 x5_1 x6_1 x7_1 = some r) ∧ Aside0 (kq ≤ k) ∧ Aside0 (Kd.R (Kd.int .u64) 122 w' w.heap.size (fun _ => True) v5 x5_1) ∧ Aside0 (Below w.heap.size w w'))
 case atStart => exact ⟨(y176), (0), (0), (by first | rfl | (simp; done) | (simp [*]; done)), (by first | rfl | (simp; done) | (simp [*]; done)), H', ⟨Nat.le_refl _⟩, ⟨by (with_reducible repeat (first | apply Kd.R_alloc | apply Kd.R_drewN | apply Kd.R_drew)); exact HO178.out⟩, ⟨b_R⟩⟩
 case round =>
  clear H'
  try clear c1
  try clear p2
  try clear c4
  obtain ⟨x5_1, x6_1, x7_1, rfl, rfl, HA, HK1, HO_5, HB⟩ := hrel
  cases gk with
  | zero => exact absurd HA.out (by simp [aneroidref01_rest.l0])
  | succ k1 =>
   have H := HA.out
   clear HA
   simp only [aneroidref01_rest.l0] at H
   by_cases c5 : x7_1 < (l0.length : Int)
   ·
    rw [if_pos c5] at H
    have c5b0 : decide (x7_1 < (l0.length : Int)) = true := decide_eq_true c5
    clear c5
    by_cases c6 : 0 ≤ x7_1
    ·
     rw [if_pos c6] at H
     have c6b0 : decide (0 ≤ x7_1) = true := decide_eq_true c6
     clear c6
     replace H := Option.bind_eq_some_iff.mp H
     obtain ⟨t180, A70, H⟩ := H
     replace H : (if x5_1.length < 17592186044416 then (aneroidref01_rest.l0 k1 l0 l1 (x5_1 ++ [Int.tmod (IntKind.u64.wrap ((IntKind.u64.wrap ((IntKind.u64.wrap (65536 + (rd l0 x7_1))) - t180)) - x6_1)) 65536]) (IntKind.u64.wrap (1 - (IntKind.u64.wrap (Int.tdiv (IntKind.u64.wrap ((IntKind.u64.wrap ((IntKind.u64.wrap (65536 + (rd l0 x7_1))) - t180)) - x6_1)) 65536)))) (wrap64 (x7_1 + 1))) else (none)) = some r := H
     have A7 := am A70
     clear A70
     by_cases c8 : x5_1.length < 17592186044416
     ·
      rw [if_pos c8] at H
      have LMc8 := am c8
      clear c8
      obtain ⟨y181, hy181⟩ : ∃ y_ : List Int, y_ = (x5_1 ++ [Int.tmod (IntKind.u64.wrap ((IntKind.u64.wrap ((IntKind.u64.wrap (65536 + (rd l0 x7_1))) - t180)) - x6_1)) 65536]) := ⟨_, rfl⟩
      replace H : (aneroidref01_rest.l0 k1 l0 l1 y181 (IntKind.u64.wrap (1 - (IntKind.u64.wrap (Int.tdiv (IntKind.u64.wrap ((IntKind.u64.wrap ((IntKind.u64.wrap (65536 + (rd l0 x7_1))) - t180)) - x6_1)) 65536)))) (wrap64 (x7_1 + 1))) = some r := by first | (rw [hy181]; with_reducible exact H) | (have H2_ := (Option.bind_some _ _).symm.trans H; rw [hy181]; with_reducible exact H2_) | (have H2_ := (Option.bind_some _ _).symm.trans H; with_reducible exact H2_) | with_reducible exact H | (rw [hy181]; exact H) | exact H
      have Ny181 := am hy181
      clear hy181
      have H' := am H
      clear H
      have p179 : 0 ≤ (x7_1 : Int) := of_decide_eq_true (by first | (with_reducible assumption) | assumption)
      have q179 : x7_1 < (l0.length : Int) := of_decide_eq_true (by first | (with_reducible assumption) | assumption)
      obtain ⟨ad179, e179, hx179_0⟩ := Kd.at_int HR0.out x7_1 p179 q179
      cases e179
      replace hx179_0 := (HB.out.cell (World.block_lt_of_cell? w _ hx179_0)).trans hx179_0
      replace p179 := eq_true p179
      replace q179 := eq_true q179
      go_wp2_with (first | (go_at_call 81; (with_reducible refine (aneroidref01_digit.calls _ _ l1 x7_1 t180 _ ?side1 ?side2 A7.out).mono ?_); (case side1 => repeat (first | exact (Kd.C_below HR1.out HB.out) | (with_reducible refine Kd.C_alloc ?_ _) | (with_reducible refine Kd.C_drewN ?_ _) | (with_reducible refine Kd.C_drew ?_))); (case side2 => exact HC1.out); rintro e w' ⟨rfl, ⟨nd, rfl⟩⟩; (try first | exact ⟨rfl, _, World.drewN_drewN _ _ _⟩ | exact ⟨rfl, _, Eq.trans (World.drewN_drewN _ _ _) (congrArg (World.drewN _) (Nat.add_assoc _ _ _))⟩)) | ((with_reducible refine gate_builtin (b := .append) (xs := #[.tmp 27, .tmp 30]) rfl ?_); at_builtin; refine Kd.R_append (Kd.int .u64) (w0 := w) w.heap.size rfl (.tmp 27) (.tmp 30) 83 122 (.int .u64 0) 8 rfl Tryz.underlying83 info122 rfl (by decide) (by omega) u5 x5_1 (Int.tmod (IntKind.u64.wrap ((IntKind.u64.wrap ((IntKind.u64.wrap (65536 + (rd l0 x7_1))) - t180)) - x6_1)) 65536) [.int .u64 (Int.tmod (IntKind.u64.wrap ((IntKind.u64.wrap ((IntKind.u64.wrap (65536 + (rd l0 x7_1))) - t180)) - x6_1)) 65536)] (fun _ => True) (fun _ => False) rfl rfl ?aP (fun _ hk => hk.elim) ?aF ?aO ?aB ?aS ?aL ?_; (case aP => exact rfl); (case aB => exact (b_R)); (case aF => exact (fun _ _ => trivial)); (case aO => exact (by (with_reducible repeat (first | apply Kd.R_alloc | apply Kd.R_drewN | apply Kd.R_drew)); exact HO_5.out)); (case aS => exact (below_size (b_R))); (case aL => have := LMc8.out; omega); intro v182 w9 ho hb hg hat; rw [← Ny181.out] at ho; have n0_ := am (hb); have n1_ := am (ho); clear HB; clear HO_5; have HB := n0_; have HO183 := n1_; clear n0_ n1_; clear ho hb hg hat))
      repeat (go_quiet (first | (go_at_call 81; (with_reducible refine (aneroidref01_digit.calls _ _ l1 x7_1 t180 _ ?side1 ?side2 A7.out).mono ?_); (case side1 => repeat (first | exact (Kd.C_below HR1.out HB.out) | (with_reducible refine Kd.C_alloc ?_ _) | (with_reducible refine Kd.C_drewN ?_ _) | (with_reducible refine Kd.C_drew ?_))); (case side2 => exact HC1.out); rintro e w' ⟨rfl, ⟨nd, rfl⟩⟩; (try first | exact ⟨rfl, _, World.drewN_drewN _ _ _⟩ | exact ⟨rfl, _, Eq.trans (World.drewN_drewN _ _ _) (congrArg (World.drewN _) (Nat.add_assoc _ _ _))⟩)) | ((with_reducible refine gate_builtin (b := .append) (xs := #[.tmp 27, .tmp 30]) rfl ?_); at_builtin; refine Kd.R_append (Kd.int .u64) (w0 := w) w.heap.size rfl (.tmp 27) (.tmp 30) 83 122 (.int .u64 0) 8 rfl Tryz.underlying83 info122 rfl (by decide) (by omega) u5 x5_1 (Int.tmod (IntKind.u64.wrap ((IntKind.u64.wrap ((IntKind.u64.wrap (65536 + (rd l0 x7_1))) - t180)) - x6_1)) 65536) [.int .u64 (Int.tmod (IntKind.u64.wrap ((IntKind.u64.wrap ((IntKind.u64.wrap (65536 + (rd l0 x7_1))) - t180)) - x6_1)) 65536)] (fun _ => True) (fun _ => False) rfl rfl ?aP (fun _ hk => hk.elim) ?aF ?aO ?aB ?aS ?aL ?_; (case aP => exact rfl); (case aB => exact (b_R)); (case aF => exact (fun _ _ => trivial)); (case aO => exact (by (with_reducible repeat (first | apply Kd.R_alloc | apply Kd.R_drewN | apply Kd.R_drew)); exact HO_5.out)); (case aS => exact (below_size (b_R))); (case aL => have := LMc8.out; omega); intro v182 w9 ho hb hg hat; rw [← Ny181.out] at ho; have n0_ := am (hb); have n1_ := am (ho); clear HB; clear HO_5; have HB := n0_; have HO183 := n1_; clear n0_ n1_; clear ho hb hg hat)); try go_wp2_with (first | (go_at_call 81; (with_reducible refine (aneroidref01_digit.calls _ _ l1 x7_1 t180 _ ?side1 ?side2 A7.out).mono ?_); (case side1 => repeat (first | exact (Kd.C_below HR1.out HB.out) | (with_reducible refine Kd.C_alloc ?_ _) | (with_reducible refine Kd.C_drewN ?_ _) | (with_reducible refine Kd.C_drew ?_))); (case side2 => exact HC1.out); rintro e w' ⟨rfl, ⟨nd, rfl⟩⟩; (try first | exact ⟨rfl, _, World.drewN_drewN _ _ _⟩ | exact ⟨rfl, _, Eq.trans (World.drewN_drewN _ _ _) (congrArg (World.drewN _) (Nat.add_assoc _ _ _))⟩)) | ((with_reducible refine gate_builtin (b := .append) (xs := #[.tmp 27, .tmp 30]) rfl ?_); at_builtin; refine Kd.R_append (Kd.int .u64) (w0 := w) w.heap.size rfl (.tmp 27) (.tmp 30) 83 122 (.int .u64 0) 8 rfl Tryz.underlying83 info122 rfl (by decide) (by omega) u5 x5_1 (Int.tmod (IntKind.u64.wrap ((IntKind.u64.wrap ((IntKind.u64.wrap (65536 + (rd l0 x7_1))) - t180)) - x6_1)) 65536) [.int .u64 (Int.tmod (IntKind.u64.wrap ((IntKind.u64.wrap ((IntKind.u64.wrap (65536 + (rd l0 x7_1))) - t180)) - x6_1)) 65536)] (fun _ => True) (fun _ => False) rfl rfl ?aP (fun _ hk => hk.elim) ?aF ?aO ?aB ?aS ?aL ?_; (case aP => exact rfl); (case aB => exact (b_R)); (case aF => exact (fun _ _ => trivial)); (case aO => exact (by (with_reducible repeat (first | apply Kd.R_alloc | apply Kd.R_drewN | apply Kd.R_drew)); exact HO_5.out)); (case aS => exact (below_size (b_R))); (case aL => have := LMc8.out; omega); intro v182 w9 ho hb hg hat; rw [← Ny181.out] at ho; have n0_ := am (hb); have n1_ := am (ho); clear HB; clear HO_5; have HB := n0_; have HO183 := n1_; clear n0_ n1_; clear ho hb hg hat)))
      go_roundg k1
      case measure => have := HK1.out; omega
      case rel => exact ⟨(y181), (IntKind.u64.wrap (1 - (IntKind.u64.wrap (Int.tdiv (IntKind.u64.wrap ((IntKind.u64.wrap ((IntKind.u64.wrap (65536 + (rd l0 x7_1))) - t180)) - x6_1)) 65536)))), (wrap64 (x7_1 + 1)), (by first | rfl | (simp; done) | (simp [*]; done)), (by first | rfl | (simp; done) | (simp [*]; done)), H', ⟨by have := HK1.out; omega⟩, ⟨by (with_reducible repeat (first | apply Kd.R_alloc | apply Kd.R_drewN | apply Kd.R_drew)); exact HO183.out⟩, ⟨b_R⟩⟩
     rw [if_neg c8] at H
     exact absurd H (by simp)
    rw [if_neg c6] at H
    exact absurd H (by simp)
   rw [if_neg c5] at H
   have c5b0 : decide (x7_1 < (l0.length : Int)) = false := decide_eq_false c5
   clear c5
   obtain rfl := Option.some.inj H
   go_wp2
   repeat (go_quiet (fail); try go_wp2)
   go_ret
   exact ⟨_, by first | rfl | (simp [errW_none, errW_some] <;> rfl) | (simp [*, errW_none, errW_some] <;> rfl), by (with_reducible repeat (first | apply Kd.R_alloc | apply Kd.R_drewN | apply Kd.R_drew)); exact HO_5.out, b_R⟩
def aneroidref01_low.l0 : Nat → List Int → Int → Int → Option (Int)
 | 0, _, _, _ => none
 | k + 1, x0, x3, x4 => if x4 ≥ 0 then ((aneroidref01_digit.f x0 x4).bind fun t195 => (aneroidref01_low.l0 k x0 (IntKind.u64.wrap ((IntKind.u64.wrap (65536 * x3)) + t195)) (wrap64 (x4 - 1)))) else (some x3)
def aneroidref01_low.f (k : Nat) (l0 : List Int) : Option (Int) := aneroidref01_low.l0 k l0 0 3
set_option maxHeartbeats 8000000 in
set_option maxRecDepth 100000 in
theorem aneroidref01_low.calls (k : Nat) (A0 : Option Addr) (c0 : Nat) (l0 : List Int) (r : Int) (w : World) (hr0 : Kd.C (Kd.int .u64) w A0 l0.length l0) (hc0 : l0.length ≤ c0) (h : aneroidref01_low.f k l0 = some r) :
  Calls Tryz.prog 87 #[.slice A0 l0.length c0] w fun e w' => e = .returned (.int .u64 r) ∧ Drawn0 w w' := by
 have HR0 := am hr0
 have HC0 := am hc0
 clear hr0 hc0
 have H : (aneroidref01_low.l0 k l0 0 3) = some r := h
 clear h
 have H' := am H
 clear H
 go_enter Tryz.func87, Tryz.ntmps87
 go_wp2
 go_loopg [3, 4] k (fun kq v3 v4 w' => ∃ (x3_1 : Int) (x4_1 : Int), v3 = .int .u64 x3_1 ∧ v4 = .int .i64 x4_1 ∧ Aside0 (aneroidref01_low.l0 kq l0 x3_1 x4_1 = some r) ∧ Aside0 (kq ≤ k) ∧ Drawn0 w w')
 case atStart => exact ⟨(0), (3), (by first | rfl | (simp; done) | (simp [*]; done)), (by first | rfl | (simp; done) | (simp [*]; done)), H', ⟨Nat.le_refl _⟩, by repeat (first | exact Drawn0.refl _ | apply Drawn0.step)⟩
 case round =>
  clear H'
  obtain ⟨x3_1, x4_1, rfl, rfl, HA, HK1, ⟨m1, rfl⟩⟩ := hrel
  cases gk with
  | zero => exact absurd HA.out (by simp [aneroidref01_low.l0])
  | succ k1 =>
   have H := HA.out
   clear HA
   simp only [aneroidref01_low.l0] at H
   by_cases c2 : x4_1 ≥ 0
   ·
    rw [if_pos c2] at H
    have c2b0 : decide (0 ≤ x4_1) = true := decide_eq_true c2
    clear c2
    replace H := Option.bind_eq_some_iff.mp H
    obtain ⟨t195, A30, H⟩ := H
    replace H : (aneroidref01_low.l0 k1 l0 (IntKind.u64.wrap ((IntKind.u64.wrap (65536 * x3_1)) + t195)) (wrap64 (x4_1 - 1))) = some r := H
    have A3 := am A30
    clear A30
    have H' := am H
    clear H
    go_wp2_with (first | ((with_reducible refine gate_callee (f := 81) rfl ?_); refine g_L 13 Tryz.func81 #[.slice A0 l0.length c0, x4_1] ?_; (with_reducible refine (aneroidref01_digit.calls _ _ l0 x4_1 t195 _ ?side1 ?side2 A3.out).mono ?_); (case side1 => repeat (first | exact HR0.out | (with_reducible refine Kd.C_alloc ?_ _) | (with_reducible refine Kd.C_drewN ?_ _) | (with_reducible refine Kd.C_drew ?_))); (case side2 => exact HC0.out); rintro e w' ⟨rfl, ⟨nd, rfl⟩⟩; refine ⟨_, rfl, ?_⟩))
    go_roundg k1
    case measure => have := HK1.out; omega
    case rel => exact ⟨(IntKind.u64.wrap ((IntKind.u64.wrap (65536 * x3_1)) + t195)), (wrap64 (x4_1 - 1)), (by first | rfl | (simp; done) | (simp [*]; done)), (by first | rfl | (simp; done) | (simp [*]; done)), H', ⟨by have := HK1.out; omega⟩, by repeat (first | exact Drawn0.refl _ | apply Drawn0.step)⟩
   rw [if_neg c2] at H
   have c2b0 : decide (0 ≤ x4_1) = false := decide_eq_false c2
   clear c2
   obtain rfl := Option.some.inj H
   go_wp2
   go_ret
   exact f_0
def aneroidref06_Height.f (a0 : Int) : Option (Int) := some (wrap64 ((wrap64 ((wrap64 (256 * a0)) - 512)) * 1099511627776))
set_option maxHeartbeats 8000000 in
set_option maxRecDepth 100000 in
theorem aneroidref06_Height.calls (a0 : Int) (r : Int) (w : World) (h : aneroidref06_Height.f a0 = some r) :
  Calls Tryz.prog 37 #[a0] w fun e w' => e = .returned (.int .i64 r) ∧ Drawn0 w w' := by
 have H : (some (wrap64 ((wrap64 ((wrap64 (256 * a0)) - 512)) * 1099511627776))) = some r := h
 clear h
 obtain rfl := Option.some.inj H
 go_enter Tryz.func37, Tryz.ntmps37
 go_wp2
 go_ret
 exact f_0
end Go.Proofs.YtpdahkgandaabaaGreatDoor.PDoc
namespace Go.Proofs.YtpdahkgandaabaaGreatDoor.Bg
open Go.RowKit Go.Proofs.YtpdahkgandaabaaGreatDoorW.PrintWords Go.Proofs.YtpdahkgandaabaaGreatDoorW.PrintLast Go.Proofs.YtpdahkgandaabaaGreatDoorW.PrintMore Go.Proofs.YtpdahkgandaabaaGreatDoor.PDoc
theorem w64 {x : Int} (h0 : -9223372036854775808 ≤ x) (h1 : x ≤ 9223372036854775807) : wrap64 x = x := by
 unfold wrap64
 omega
theorem u64 {x : Int} (h0 : 0 ≤ x) (h1 : x < 18446744073709551616) : IntKind.u64.wrap x = x := by
 rw [IntKind.wrap_u64]
 omega
def val : List Int → Int
 | [] => 0
 | d :: r => d + 65536 * val r
def Dg (l : List Int) : Prop := ∀ d ∈ l, 0 ≤ d ∧ d < 65536
def Norm (l : List Int) : Prop := ∀ n : Nat, l.length = n + 1 → rd l (n : Int) ≠ 0
theorem rd_nat (l : List Int) (j : Nat) : rd l (j : Int) = l.getD j 0 := by unfold rd; rw [Int.toNat_natCast]
theorem rd_in {l : List Int} {j : Nat} (h : j < l.length) : rd l (j : Int) = l[j] := by rw [rd_nat, List.getD_eq_getElem?_getD, List.getElem?_eq_getElem h]; rfl
theorem rd_out {l : List Int} {j : Nat} (h : l.length ≤ j) : rd l (j : Int) = 0 := by rw [rd_nat, List.getD_eq_getElem?_getD, List.getElem?_eq_none h]; rfl
theorem Dg.rd {l : List Int} (h : Dg l) (j : Nat) : 0 ≤ rd l (j : Int) ∧ rd l (j : Int) < 65536 := by
 rcases Nat.lt_or_ge j l.length with hj | hj
 ·
  rw [rd_in hj]
  exact h _ (List.getElem_mem hj)
 rw [rd_out hj]
 decide
theorem Dg.drop {l : List Int} (h : Dg l) (j : Nat) : Dg (l.drop j) := fun x hx => h x (List.mem_of_mem_drop hx)
theorem Dg.take {l : List Int} (h : Dg l) (j : Nat) : Dg (l.take j) := fun x hx => h x (List.mem_of_mem_take hx)
theorem Dg.append {a b : List Int} (ha : Dg a) (hb : Dg b) : Dg (a ++ b) := fun x hx => (List.mem_append.1 hx).elim (ha x) (hb x)
theorem Dg.one {x : Int} (h0 : 0 ≤ x) (h1 : x < 65536) : Dg [x] := fun y hy => by
 rw [List.mem_singleton] at hy
 subst hy
 exact ⟨h0, h1⟩
theorem Dg.nil : Dg [] := fun x hx => by simp at hx
theorem val_drop (l : List Int) (j : Nat) : val (l.drop j) = rd l (j : Int) + 65536 * val (l.drop (j + 1)) := by
 rcases Nat.lt_or_ge j l.length with hj | hj
 ·
  rw [List.drop_eq_getElem_cons hj, val, rd_in hj]
 rw [rd_out hj, List.drop_eq_nil_of_le hj, List.drop_eq_nil_of_le (by omega)]
 rfl
theorem val_end {l : List Int} {j : Nat} (h : l.length ≤ j) : val (l.drop j) = 0 := by rw [List.drop_eq_nil_of_le h]; rfl
theorem val_nonneg : ∀ {l : List Int}, Dg l → 0 ≤ val l
 | [], _ => Int.le_refl _
 | d :: r, h => by
  have h1 := h d List.mem_cons_self
  have h2 := val_nonneg (l := r) (fun x hx => h x (List.mem_cons_of_mem _ hx))
  unfold val
  omega
theorem val_snoc0 (l : List Int) : val (l ++ [0]) = val l := by
 induction l with
 | nil => rfl
 | cons d r ih => rw [List.cons_append, val, val, ih]
theorem digit_f (l : List Int) (j : Nat) : aneroidref01_digit.f l (j : Int) = some (rd l (j : Int)) := by
 unfold aneroidref01_digit.f
 rcases Nat.lt_or_ge j l.length with hj | hj
 ·
  rw [if_pos (by omega), if_pos (by omega)]
 rw [if_neg (by omega), rd_out hj]
theorem cast_succ (j : Nat) (hj : j < 1000000) : wrap64 ((j : Int) + 1) = ((j + 1 : Nat) : Int) := by rw [w64 (by omega) (by omega)]; omega
theorem sum_last (a b x : List Int) (j : Nat) (k : Nat) (ha : a.length ≤ j) (hb : b.length ≤ j) :
  aneroidref01_sum.l0 (k + 2) a b x 0 (j : Int) = some x := by
 rw [aneroidref01_sum.l0, if_neg (by omega), if_neg (by omega), aneroidref01_sum.j1]
 rfl
theorem sum_round (a b x : List Int) (c : Int) (j k : Nat) (hj : j < 100000) (hx : x.length < 100000) (hd : Dg a) (he : Dg b) (hc : 0 ≤ c ∧ c ≤ 1) (hgo : j < a.length ∨ j < b.length ∨ 0 < c) :
  aneroidref01_sum.l0 (k + 2) a b x c (j : Int) = aneroidref01_sum.l0 k a b (x ++ [(rd a (j : Int) + rd b (j : Int) + c) % 65536]) ((rd a (j : Int) + rd b (j : Int) + c) / 65536) ((j + 1 : Nat) : Int) := by
 have h1 := hd.rd j
 have h2 := he.rd j
 have e : aneroidref01_sum.l0 (k + 2) a b x c (j : Int) = aneroidref01_sum.j1 (k + 1) a b x c (j : Int) true := by
  rw [aneroidref01_sum.l0]
  by_cases ca : (j : Int) < (a.length : Int)
  ·
   rw [if_pos ca]
  rw [if_neg ca]
  by_cases cb : (j : Int) < (b.length : Int)
  ·
   rw [if_pos cb]
  rw [if_neg cb, decide_eq_true (by omega)]
 rw [e, aneroidref01_sum.j1, if_pos rfl, digit_f, digit_f]
 simp only [Option.bind_some]
 generalize rd a (j : Int) = p at *
 generalize rd b (j : Int) = q at *
 rw [if_pos (by omega), u64 (x := p + q) (by omega) (by omega), u64 (x := p + q + c) (by omega) (by omega), Int.tmod_eq_emod_of_nonneg (by omega), Int.tdiv_eq_ediv_of_nonneg (by omega), u64 (x := (p + q + c) / 65536) (by omega) (by omega), cast_succ j (by omega)]
theorem sum_run (a b : List Int) (hd : Dg a) (he : Dg b) : ∀ (n j : Nat) (x : List Int) (c : Int), a.length ≤ j + n → b.length ≤ j + n → x.length = j → j + n < 10000 → (0 ≤ c ∧ c ≤ 1) → Dg x →
  ∃ s, aneroidref01_sum.l0 (2 * n + 4) a b x c (j : Int) = some (x ++ s) ∧ Dg s ∧ s.length ≤ n + 1 ∧ val s = c + val (a.drop j) + val (b.drop j) := by
 intro n
 induction n with
 | zero =>
  intro j x c h1 h2 hx hj hc hdx
  rw [Nat.add_zero] at h1 h2
  rw [val_end h1, val_end h2]
  by_cases h0 : c = 0
  ·
   subst h0
   exact ⟨[], by rw [sum_last a b x j 2 (by omega) (by omega), List.append_nil], Dg.nil, by simp, rfl⟩
  have h1' : c = 1 := by omega
  subst h1'
  refine ⟨[1], ?_, Dg.one (by decide) (by decide), by simp, rfl⟩
  rw [show 2 * 0 + 4 = 2 + 2 by omega, sum_round a b x 1 j 2 (by omega) (by omega) hd he (by omega) (by omega), rd_out (by omega : a.length ≤ j), rd_out (by omega : b.length ≤ j)]
  exact sum_last a b _ (j + 1) 0 (by omega) (by omega)
 | succ n ih =>
  intro j x c h1 h2 hx hj hc hdx
  by_cases hgo : j < a.length ∨ j < b.length ∨ 0 < c
  ·
   have g1 := hd.rd j
   have g2 := he.rd j
   have v1 := val_drop a j
   have v2 := val_drop b j
   rw [show 2 * (n + 1) + 4 = (2 * n + 4) + 2 by omega, sum_round a b x c j _ (by omega) (by omega) hd he hc hgo]
   generalize rd a (j : Int) = p at *
   generalize rd b (j : Int) = q at *
   obtain ⟨s, e, hs, hl, hv⟩ := ih (j + 1) (x ++ [(p + q + c) % 65536]) ((p + q + c) / 65536) (by omega) (by omega) (by simp [hx]) (by omega) (by omega) (hdx.append (Dg.one (by omega) (by omega)))
   refine ⟨(p + q + c) % 65536 :: s, by rw [e]; simp, ?_, by simp; omega, ?_⟩
   ·
    exact fun y hy => (List.mem_cons.1 hy).elim (fun h => by subst h; omega) (hs y)
   rw [val, hv]
   omega
  have h0 : c = 0 := by omega
  subst h0
  refine ⟨[], ?_, Dg.nil, by simp, ?_⟩
  ·
   rw [show 2 * (n + 1) + 4 = (2 * n + 4) + 2 by omega, sum_last a b x j _ (by omega) (by omega), List.append_nil]
  rw [val_end (by omega), val_end (by omega)]
  rfl
theorem sum_f (a b : List Int) (hd : Dg a) (he : Dg b) (ha : a.length ≤ 1000) (hb : b.length ≤ 1000) :
  ∃ s, aneroidref01_sum.f 2004 a b = some s ∧ Dg s ∧ s.length ≤ 1001 ∧ val s = val a + val b := by
 obtain ⟨s, e, hs, hl, hv⟩ := sum_run a b hd he 1000 0 [] 0 (by omega) (by omega) rfl (by omega) (by omega) Dg.nil
 exact ⟨s, e, hs, hl, by rw [hv]; simp⟩
theorem rest_run (a b : List Int) (hd : Dg a) (he : Dg b) (hlen : b.length ≤ a.length) (hl : a.length ≤ 1000) : ∀ (n j : Nat) (x : List Int) (c : Int), j + n = a.length → x.length = j → (0 ≤ c ∧ c ≤ 1) → val (b.drop j) + c ≤ val (a.drop j) → Dg x →
  ∃ s, aneroidref01_rest.l0 (n + 1) a b x c (j : Int) = some (x ++ s) ∧ Dg s ∧ s.length = n ∧ val s = val (a.drop j) - val (b.drop j) - c := by
 intro n
 induction n with
 | zero =>
  intro j x c hj hx hc hle hdx
  rw [val_end (by omega : a.length ≤ j), val_end (by omega : b.length ≤ j)] at hle ⊢
  refine ⟨[], ?_, Dg.nil, rfl, by simp [val]; omega⟩
  rw [aneroidref01_rest.l0, if_neg (by omega), List.append_nil]
 | succ n ih =>
  intro j x c hj hx hc hle hdx
  have g1 := hd.rd j
  have g2 := he.rd j
  have v1 := val_drop a j
  have v2 := val_drop b j
  rw [aneroidref01_rest.l0, if_pos (by omega), if_pos (by omega), digit_f, Option.bind_some, if_pos (by omega)]
  generalize rd a (j : Int) = p at *
  generalize rd b (j : Int) = q at *
  rw [u64 (x := 65536 + p) (by omega) (by omega), u64 (x := 65536 + p - q) (by omega) (by omega), u64 (x := 65536 + p - q - c) (by omega) (by omega), Int.tmod_eq_emod_of_nonneg (by omega), Int.tdiv_eq_ediv_of_nonneg (by omega),
   u64 (x := (65536 + p - q - c) / 65536) (by omega) (by omega), u64 (x := 1 - (65536 + p - q - c) / 65536) (by omega) (by omega), cast_succ j (by omega)]
  obtain ⟨s, e, hs, hl, hv⟩ := ih (j + 1) (x ++ [(65536 + p - q - c) % 65536]) (1 - (65536 + p - q - c) / 65536) (by omega) (by simp [hx]) (by omega) (by omega) (hdx.append (Dg.one (by omega) (by omega)))
  refine ⟨(65536 + p - q - c) % 65536 :: s, by rw [e]; simp, ?_, by simp [hl], ?_⟩
  ·
   exact fun y hy => (List.mem_cons.1 hy).elim (fun h => by subst h; omega) (hs y)
  rw [val, hv]
  omega
theorem rest_f (a b : List Int) (hd : Dg a) (he : Dg b) (hlen : b.length ≤ a.length) (hl : a.length ≤ 1000) (hle : val b ≤ val a) :
  ∃ s, aneroidref01_rest.f (a.length + 1) a b = some s ∧ Dg s ∧ s.length = a.length ∧ val s = val a - val b := by
 obtain ⟨s, e, hs, hl, hv⟩ := rest_run a b hd he hlen hl a.length 0 [] 0 (by omega) rfl (by omega) (by simpa using hle) Dg.nil
 exact ⟨s, e, hs, hl, by rw [hv]; simp⟩
theorem lt_down (a b : List Int) (hd : Dg a) (he : Dg b) : ∀ i : Nat, val (a.drop i) < val (b.drop i) → val a < val b := by
 intro i
 induction i with
 | zero => intro h; simpa using h
 | succ i ih =>
  intro h
  refine ih ?_
  have g1 := hd.rd i
  have g2 := he.rd i
  rw [val_drop a i, val_drop b i]
  omega
theorem eq_down (a b : List Int) (i : Nat) (h : val (a.drop (i + 1)) = val (b.drop (i + 1))) (hr : rd a (i : Int) = rd b (i : Int)) : val (a.drop i) = val (b.drop i) := by
 rw [val_drop a i, val_drop b i, h, hr]
theorem top_pos {l : List Int} (hd : Dg l) (hn : Norm l) (i : Nat) (h : i < l.length) : 0 < val (l.drop i) := by
 obtain ⟨n, hl⟩ : ∃ n, l.length = n + 1 := ⟨l.length - 1, by omega⟩
 have ht := hn n hl
 have hb := hd.rd n
 have key : ∀ m j : Nat, j + m = n → 0 < val (l.drop j) := by
  intro m
  induction m with
  | zero =>
   intro j hj
   have e : j = n := by omega
   subst e
   rw [val_drop, val_end (by omega)]
   omega
  | succ m ih =>
   intro j hj
   have g := hd.rd j
   have := ih (j + 1) (by omega)
   rw [val_drop]
   omega
 exact key (n - i) i (by omega)
theorem len_lt {a b : List Int} (hd : Dg a) (he : Dg b) (hn : Norm b) (h : a.length < b.length) : val a < val b := by
 refine lt_down a b hd he a.length ?_
 rw [val_end (Nat.le_refl _)]
 exact top_pos he hn _ h
theorem less_run (a b : List Int) (hd : Dg a) (he : Dg b) (hlen : a.length = b.length) (hl : a.length ≤ 1000) : ∀ n : Nat, n ≤ a.length → val (a.drop n) = val (b.drop n) →
  aneroidref01_less.l0 (n + 1) a b ((n : Int) - 1) = some (decide (val a < val b)) := by
 intro n
 induction n with
 | zero =>
  intro _ heq
  rw [aneroidref01_less.l0, if_neg (by omega)]
  simp only [List.drop_zero] at heq
  rw [heq, decide_eq_false (Int.lt_irrefl _)]
 | succ n ih =>
  intro hn heq
  have e1 : (((n + 1 : Nat) : Int) - 1) = (n : Int) := by omega
  rw [aneroidref01_less.l0, e1, if_pos (by omega), if_pos (by omega), if_pos (by omega), if_pos (by omega)]
  by_cases hr : rd a (n : Int) = rd b (n : Int)
  ·
   rw [if_pos hr, w64 (by omega) (by omega)]
   exact ih (by omega) (eq_down a b n heq hr)
  rw [if_neg hr]
  have va := val_drop a n
  have vb := val_drop b n
  by_cases hlt : rd a (n : Int) < rd b (n : Int)
  ·
   rw [decide_eq_true hlt, decide_eq_true (lt_down a b hd he n (by omega))]
  have := lt_down b a he hd n (by omega)
  rw [decide_eq_false hlt, decide_eq_false (by omega)]
theorem less_f (a b : List Int) (hd : Dg a) (he : Dg b) (hna : Norm a) (hnb : Norm b) (hl : a.length ≤ 1000) (_ : b.length ≤ 1000) : aneroidref01_less.f (a.length + 1) a b = some (decide (val a < val b)) := by
 unfold aneroidref01_less.f
 by_cases h : a.length = b.length
 ·
  rw [if_pos (by omega), w64 (by omega) (by omega)]
  exact less_run a b hd he h hl a.length (Nat.le_refl _) (by rw [val_end (Nat.le_refl _), val_end (by omega)])
 rw [if_neg (by omega)]
 rcases Nat.lt_or_ge a.length b.length with hlt | hge
 ·
  rw [decide_eq_true (by omega), decide_eq_true (len_lt hd he hnb hlt)]
 have := len_lt he hd hna (show b.length < a.length by omega)
 rw [decide_eq_false (by omega), decide_eq_false (by omega)]
theorem low_f (l : List Int) (hd : Dg l) (hl : l.length ≤ 4) (hv : val l < 18446744073709551616) : aneroidref01_low.f 5 l = some (val l) := by
 have d0 : val l = rd l 0 + 65536 * val (l.drop 1) := val_drop l 0
 have d1 : val (l.drop 1) = rd l 1 + 65536 * val (l.drop 2) := val_drop l 1
 have d2 : val (l.drop 2) = rd l 2 + 65536 * val (l.drop 3) := val_drop l 2
 have d3 : val (l.drop 3) = rd l 3 + 65536 * val (l.drop 4) := val_drop l 3
 have d4 : val (l.drop 4) = 0 := val_end hl
 have g0 : 0 ≤ rd l 0 ∧ rd l 0 < 65536 := hd.rd 0
 have g1 : 0 ≤ rd l 1 ∧ rd l 1 < 65536 := hd.rd 1
 have g2 : 0 ≤ rd l 2 ∧ rd l 2 < 65536 := hd.rd 2
 have g3 : 0 ≤ rd l 3 ∧ rd l 3 < 65536 := hd.rd 3
 have f0 : aneroidref01_digit.f l 0 = some (rd l 0) := digit_f l 0
 have f1 : aneroidref01_digit.f l 1 = some (rd l 1) := digit_f l 1
 have f2 : aneroidref01_digit.f l 2 = some (rd l 2) := digit_f l 2
 have f3 : aneroidref01_digit.f l 3 = some (rd l 3) := digit_f l 3
 rw [d4] at d3
 unfold aneroidref01_low.f
 generalize rd l 0 = a0 at *
 generalize rd l 1 = a1 at *
 generalize rd l 2 = a2 at *
 generalize rd l 3 = a3 at *
 rw [aneroidref01_low.l0, if_pos (by decide), f3, Option.bind_some, show wrap64 (3 - 1) = 2 by decide +kernel, u64 (x := 65536 * 0) (by omega) (by omega), u64 (x := 65536 * 0 + a3) (by omega) (by omega),
  aneroidref01_low.l0, if_pos (by decide), f2, Option.bind_some, show wrap64 (2 - 1) = 1 by decide +kernel, u64 (x := 65536 * (65536 * 0 + a3)) (by omega) (by omega), u64 (x := 65536 * (65536 * 0 + a3) + a2) (by omega) (by omega),
  aneroidref01_low.l0, if_pos (by decide), f1, Option.bind_some, show wrap64 (1 - 1) = 0 by decide +kernel, u64 (x := 65536 * (65536 * (65536 * 0 + a3) + a2)) (by omega) (by omega), u64 (x := 65536 * (65536 * (65536 * 0 + a3) + a2) + a1) (by omega) (by omega),
  aneroidref01_low.l0, if_pos (by decide), f0, Option.bind_some, u64 (x := 65536 * (65536 * (65536 * (65536 * 0 + a3) + a2) + a1)) (by omega) (by omega), u64 (x := 65536 * (65536 * (65536 * (65536 * 0 + a3) + a2) + a1) + a0) (by omega) (by omega),
  aneroidref01_low.l0, if_neg (by decide +kernel)]
 congr 1
 omega
theorem power40 : aneroidref01_Power.f 20 40 = some (false, [0, 0, 256]) := by decide +kernel
theorem power63 : aneroidref01_Power.f 30 63 = some (false, [0, 0, 0, 32768]) := by decide +kernel
theorem take_step (l : List Int) (n : Nat) (h : n < l.length) (hz : rd l (n : Int) = 0) : val (l.take (n + 1)) = val (l.take n) := by
 rw [List.take_succ_eq_append_getElem h, show l[n] = 0 by rw [← rd_in h, hz], val_snoc0]
theorem rd_take {l : List Int} {n j : Nat} (h : j < n) (hn : n ≤ l.length) : rd (l.take n) (j : Int) = rd l (j : Int) := by
 rw [rd_in (by rw [List.length_take]; omega), rd_in (by omega), List.getElem_take]
theorem norm_take {l : List Int} {n : Nat} (hn : n ≤ l.length) (h : ∀ m, n = m + 1 → rd l (m : Int) ≠ 0) : Norm (l.take n) := by
 intro m hm
 rw [List.length_take, Nat.min_eq_left hn] at hm
 rw [rd_take (by omega) hn]
 exact h m hm
def IsBig (w : World) (v : Value) (z : Int) : Prop := ∃ (neg : Bool) (l : List Int) (A : Option Addr) (c : Nat), v = .agg #[.bool neg, .slice A l.length c] ∧ Kd.C (Kd.int .u64) w A l.length l ∧ l.length ≤ c ∧ Dg l ∧ Norm l ∧
 z = (if neg then - val l else val l) ∧ (neg = true → 0 < val l)
theorem IsBig.below {w w' : World} {v : Value} {z : Int} (h : IsBig w v z) (hb : Below w.heap.size w w') : IsBig w' v z := by
 obtain ⟨neg, l, A, c, e, hC, rest⟩ := h
 exact ⟨neg, l, A, c, e, Kd.C_below hC hb, rest⟩
theorem two_set {w0 W : World} {b : Nat} (h : W.heap[b]? = some (.cells #[.bool false, .slice none 0 0] 85 (0, 0))) (x y : Value) (hb : w0.heap.size ≤ b) (hB : Below w0.heap.size w0 W) :
  ((W.setCell ⟨b, 0, none⟩ x).setCell ⟨b, 1, none⟩ y).heap[b]? = some (.cells #[x, y] 85 (0, 0)) ∧ Below w0.heap.size w0 ((W.setCell ⟨b, 0, none⟩ x).setCell ⟨b, 1, none⟩ y) :=
 ⟨by simpa using blk_set (blk_set h 0 x) 1 y, (hB.setCell (p := ⟨b, 0, none⟩) hb x).setCell (p := ⟨b, 1, none⟩) hb y⟩
set_option maxRecDepth 100000 in
set_option maxHeartbeats 4000000 in
theorem cut_any (w : World) (neg : Bool) (A : Option Addr) (c : Nat) (xs : List Int) (hr : Kd.C (Kd.int .u64) w A xs.length xs) (hc : xs.length ≤ c) (hd : Dg xs) (hl : xs.length ≤ 2000) :
  Calls Tryz.prog 83 #[.bool neg, .slice A xs.length c] w fun e w' => ∃ v, e = .returned v ∧ IsBig w' v (if neg then - val xs else val xs) ∧ Below w.heap.size w w' := by
 have HR := am hr
 have HD := am hd
 have HC := am hc
 clear hr hd hc
 go_enter Tryz.func83, Tryz.ntmps83
 go_wp2_with fail
 have HX := am (blk_new w (.cells #[.bool false, .slice none 0 0] 85))
 have HB := am (below_alloc (Below.refl w.heap.size w) (.cells #[.bool false, .slice none 0 0] 85))
 obtain ⟨b, hb⟩ := e_x (w.heap.size)
 have hbb : w.heap.size ≤ b := by omega
 rw [← hb] at HX ⊢
 clear hb
 generalize w.alloc (.cells #[.bool false, .slice none 0 0] 85) = w1 at HX HB ⊢
 go_loopw [5] (fun v5 wr => ∃ k : Nat, k ≤ xs.length ∧ v5 = .int .i64 k ∧ Aside0 (val (xs.take k) = val xs) ∧ Aside0 (wr.heap[b]? = some (.cells #[.bool false, .slice none 0 0] 85 (0, 0))) ∧ Aside0 (Below w.heap.size w wr)) (fun v5 _ => (intOf v5).toNat)
 case atStart => exact ⟨xs.length, Nat.le_refl _, rfl, ⟨by rw [List.take_length]⟩, HX, HB⟩
 case round =>
  clear HX HB
  obtain ⟨k, hk, rfl, HV, HX, HB⟩ := hrel
  have fin : ∀ n : Nat, n ≤ xs.length → (∀ m, n = m + 1 → rd xs (m : Int) ≠ 0) → Aside0 (val (xs.take n) = val xs) → Norm (xs.take n) := fun n hn h _ => norm_take hn h
  have c0 := b_l HX 0 rfl
  have c1 := b_l HX 1 rfl
  have f0 := b_z HX 0
  have f1 := b_z HX 1
  cases k with
  | zero =>
   have HV0 := am (show val xs = 0 by have := HV.out; simpa [val] using this.symm)
   have hx0 : Kd.C (Kd.int .u64) w A (xs.take 0).length (xs.take 0) := Kd.C_take HR.out (Nat.zero_le _)
   have HC0 := am hx0
   clear hx0 HV
   cases neg
   all_goals
    go_wp2_with fail
    obtain ⟨q, qb⟩ := two_set HX.out (.bool false) (.slice A 0 c) hbb HB.out
    generalize (wr.setCell ⟨b, 0, none⟩ (.bool false)).setCell ⟨b, 1, none⟩ (.slice A 0 c) = W at q qb ⊢
    have r0 := bcl q 0 rfl
    have r1 := bcl q 1 rfl
    clear c0 c1 f0 f1
    refine ⟨rfl, .agg #[.bool false, .slice A 0 c], ?_, _, rfl, ⟨false, [], A, c, rfl, Kd.C_below HC0.out qb, Nat.zero_le _, Dg.nil, fun n h => by simp at h, ?_, fun h => by cases h⟩, qb⟩
    ·
     simp [results, Tryz.results83, go_sem, r0, r1]
    simp [HV0.out, val]
  | succ m =>
   have e0 : (((m + 1 : Nat) : Int) - 1) = (m : Int) := by omega
   have p0 : (0 : Int) ≤ (m : Int) := Int.natCast_nonneg _
   have q0 : (m : Int) < (xs.length : Int) := by omega
   obtain ⟨ad, rfl, hx⟩ := Kd.at_int (Kd.C_below HR.out HB.out) (m : Int) p0 q0
   rw [Int.toNat_natCast] at hx
   obtain ⟨z, hz⟩ : ∃ z : Int, z = ((m + 1 : Nat) : Int) := ⟨_, rfl⟩
   rw [← hz]
   have z1 : decide (0 < z) = true := decide_eq_true (by omega)
   have z2 : z - 1 = (m : Int) := by omega
   have z3 : wrap64 (m : Int) = m := w64 (by omega) (by omega)
   have HZ := am hz
   clear hz e0
   by_cases h0 : rd xs (m : Int) = 0
   ·
    have h1 : (rd xs (m : Int) == 0) = true := by rw [h0]; rfl
    have h2 : decide (rd xs (m : Int) = 0) = true := decide_eq_true h0
    have HV2 := am ((take_step xs m (by omega) h0).symm.trans HV.out)
    clear h0
    go_wp2_with fail
    go_roundw
    case rel => exact ⟨m, by omega, rfl, HV2, HX, HB⟩
    case measure => have := HZ.out; simp [intOf]; omega
   have h1 : (rd xs (m : Int) == 0) = false := by simpa using h0
   have h2 : decide (rd xs (m : Int) = 0) = false := decide_eq_false h0
   have hN := am (fin (m + 1) hk (fun m' e => by cases e; exact h0) HV)
   have hv := HV.out
   have hx0 : Kd.C (Kd.int .u64) w (some ad) (xs.take (m + 1)).length (xs.take (m + 1)) := Kd.C_take HR.out hk
   have hlen : (xs.take (m + 1)).length = m + 1 := by rw [List.length_take]; omega
   obtain ⟨ys, hys⟩ : ∃ ys, ys = xs.take (m + 1) := ⟨_, rfl⟩
   have hdy : Dg ys := by rw [hys]; exact HD.out.take _
   rw [← hys] at hx0 hv hlen hN
   have hpos : 0 < val ys := by
    have := top_pos hdy hN.out 0 (by omega)
    simpa using this
   have HC0 := am hx0
   have HV0 := am hv
   have HDY := am hdy
   have HPO := am hpos
   have HLE := am hlen
   have zc : decide (z ≤ (c : Int)) = true := decide_eq_true (by have := HZ.out; have := HC.out; omega)
   have zn : z.toNat = m + 1 := by have := HZ.out; omega
   have zp : decide (0 ≤ z) = true := decide_eq_true (by have := HZ.out; omega)
   have zq := eq_true (of_decide_eq_true zp)
   have zd := eq_true (of_decide_eq_true zc)
   clear hx0 hv HV hys hlen hpos hdy
   cases neg
   ·
    go_wp2_with fail
    obtain ⟨q, qb⟩ := two_set HX.out (.bool false) (.slice (some ad) (m + 1) c) hbb HB.out
    generalize (wr.setCell ⟨b, 0, none⟩ (.bool false)).setCell ⟨b, 1, none⟩ (.slice (some ad) (m + 1) c) = W at q qb ⊢
    have r0 := bcl q 0 rfl
    have r1 := bcl q 1 rfl
    clear c0 c1 f0 f1
    refine ⟨rfl, .agg #[.bool false, .slice (some ad) (m + 1) c], ?_, _, rfl, ⟨false, ys, some ad, c, by rw [HLE.out], Kd.C_below HC0.out qb, by have := HC.out; have := HLE.out; omega, HDY.out, hN.out, ?_, fun _ => HPO.out⟩, qb⟩
    ·
     simp [results, Tryz.results83, go_sem, r0, r1]
    simp [HV0.out]
   go_wp2_with fail
   obtain ⟨q, qb⟩ := two_set HX.out (.bool true) (.slice (some ad) (m + 1) c) hbb HB.out
   generalize (wr.setCell ⟨b, 0, none⟩ (.bool true)).setCell ⟨b, 1, none⟩ (.slice (some ad) (m + 1) c) = W at q qb ⊢
   have r0 := bcl q 0 rfl
   have r1 := bcl q 1 rfl
   clear c0 c1 f0 f1
   refine ⟨rfl, .agg #[.bool true, .slice (some ad) (m + 1) c], ?_, _, rfl, ⟨true, ys, some ad, c, by rw [HLE.out], Kd.C_below HC0.out qb, by have := HC.out; have := HLE.out; omega, HDY.out, hN.out, ?_, fun _ => HPO.out⟩, qb⟩
   ·
    simp [results, Tryz.results83, go_sem, r0, r1]
   simp [HV0.out]
theorem C_set {w : World} {A : Option Addr} {n : Nat} {xs : List Int} (h : Kd.C (Kd.int .u64) w A n xs) (p : Addr) (hp : ∀ z, w.cell? p ≠ some (.int .u64 z)) (u : Value) : Kd.C (Kd.int .u64) (w.setCell p u) A n xs := by
 obtain ⟨h1, h2, h3⟩ := h
 refine ⟨h1, h2, fun hn => ?_⟩
 obtain ⟨ad, e, hc⟩ := h3 hn
 refine ⟨ad, e, fun j q hj => ?_⟩
 obtain ⟨cs, hl, hk, hcell⟩ := hc j q hj
 have hk' : cs = [.int .u64 q] := hk
 subst hk'
 refine ⟨_, hl, rfl, fun i u' hu => ?_⟩
 have hu2 : u' = .int .u64 q := by
  cases i with
  | zero => simpa using hu.symm
  | succ i => simp at hu
 subst hu2
 rw [World.cell?_setCell_other (h := fun e => hp q (by rw [e]; exact hcell i _ hu))]
 exact hcell i _ hu
theorem IsBig.set {w : World} {v : Value} {z : Int} (h : IsBig w v z) (p : Addr) (hp : ∀ z, w.cell? p ≠ some (.int .u64 z)) (u : Value) : IsBig (w.setCell p u) v z := by
 obtain ⟨neg, l, A, c, e, hC, rest⟩ := h
 exact ⟨neg, l, A, c, e, C_set hC p hp u, rest⟩
theorem store_big {w0 W : World} {b : Nat} {ng : Bool} {s : Value} {z : Int} (hX : W.heap[b]? = some (.cells #[.bool false, .slice none 0 0] 85 (0, 0))) (hb : w0.heap.size ≤ b) (hB : Below w0.heap.size w0 W) (hv : IsBig W (.agg #[.bool ng, s]) z) :
  ((W.setCell ⟨b, 0, none⟩ (.bool ng)).setCell ⟨b, 1, none⟩ s).cell? ⟨b, 0, none⟩ = some (.bool ng) ∧ ((W.setCell ⟨b, 0, none⟩ (.bool ng)).setCell ⟨b, 1, none⟩ s).cell? ⟨b, 1, none⟩ = some s ∧
  IsBig ((W.setCell ⟨b, 0, none⟩ (.bool ng)).setCell ⟨b, 1, none⟩ s) (.agg #[.bool ng, s]) z ∧ Below w0.heap.size w0 ((W.setCell ⟨b, 0, none⟩ (.bool ng)).setCell ⟨b, 1, none⟩ s) := by
 obtain ⟨q, qb⟩ := two_set hX (.bool ng) s hb hB
 have c0 := bcl hX 0 rfl
 have h1 := blk_set hX 0 (.bool ng)
 have c1 := bcl h1 1 rfl
 refine ⟨(blk_cell q 0).trans rfl, (blk_cell q 1).trans rfl, (hv.set _ (fun z => by rw [c0]; simp) _).set _ (fun z => by rw [c1]; simp) _, qb⟩
theorem IsBig.form {w : World} {v : Value} {z : Int} (h : IsBig w v z) : ∃ ng A n c, v = .agg #[.bool ng, .slice A n c] := by
 obtain ⟨neg, l, A, c, e, _⟩ := h
 exact ⟨neg, A, l.length, c, e⟩
theorem big_len {l : List Int} (hd : Dg l) (hn : Norm l) (hv : val l < 1208925819614629174706176) : l.length ≤ 5 := by
 rcases Nat.lt_or_ge 5 l.length with h | h
 ·
  have t5 := top_pos hd hn 5 h
  have d0 : val l = rd l 0 + 65536 * val (l.drop 1) := val_drop l 0
  have d1 : val (l.drop 1) = rd l 1 + 65536 * val (l.drop 2) := val_drop l 1
  have d2 : val (l.drop 2) = rd l 2 + 65536 * val (l.drop 3) := val_drop l 2
  have d3 : val (l.drop 3) = rd l 3 + 65536 * val (l.drop 4) := val_drop l 3
  have d4 : val (l.drop 4) = rd l 4 + 65536 * val (l.drop 5) := val_drop l 4
  have g0 : 0 ≤ rd l 0 ∧ rd l 0 < 65536 := hd.rd 0
  have g1 : 0 ≤ rd l 1 ∧ rd l 1 < 65536 := hd.rd 1
  have g2 : 0 ≤ rd l 2 ∧ rd l 2 < 65536 := hd.rd 2
  have g3 : 0 ≤ rd l 3 ∧ rd l 3 < 65536 := hd.rd 3
  have g4 : 0 ≤ rd l 4 ∧ rd l 4 < 65536 := hd.rd 4
  omega
 exact h
theorem val_two (l : List Int) (a b : Int) : val (l ++ [a, b]) = val (l ++ [a + 65536 * b]) := by
 induction l with
 | nil => simp [val]
 | cons d r ih => rw [List.cons_append, List.cons_append, val, val, ih]
theorem lim8 (n : Nat) (h : n ≤ 1000) : (n + 1) * 8 ≤ 140737488355328 := by omega
set_option maxRecDepth 100000 in
set_option maxHeartbeats 4000000 in
theorem natural_any (w : World) (x : Int) (h0 : 0 ≤ x) (h1 : x < 18446744073709551616) :
  Calls Tryz.prog 84 #[.int .u64 x] w fun e w' => ∃ v, e = .returned v ∧ IsBig w' v x ∧ Below w.heap.size w w' := by
 go_enter Tryz.func84, Tryz.ntmps84
 go_wp2_with (first
  | ((with_reducible refine gate_dst (N := 5) rfl ?_); refine Kd.R_lit (Kd.int .u64) (w0 := w) w.heap.size 122 rfl (N := 5) rfl (xs := ([] : List Int)) (inner := []) (ok := fun _ => True) (okp := fun _ => True) ?hr (Reps.none _ _) (fun _ hk => hk) trivial (below_alloc (Below.refl _ _) _) (below_alloc (Below.refl _ _) _).size (by simp) ?_; (case hr => first | (go_simp; done) | (go_simp; rfl)); intro v5 w1 ho hb hg hat; have HO := am ho; have HB := am hb; have HX := am (blk_grown (blk_new w (.cells #[.bool false, .slice none 0 0] 85)) hg (by simp)); clear ho hb hg hat))
 obtain ⟨b, hb⟩ := e_x (w.heap.size)
 have hbb : w.heap.size ≤ b := by omega
 rw [← hb] at HX ⊢
 clear hb
 go_loopw [0, 3, 4] (fun v0 v3 v4 wr => ∃ (k : Nat) (y : Int) (ds : List Int), k ≤ 4 ∧ v4 = .int .i64 k ∧ v0 = .int .u64 y ∧ (0 ≤ y ∧ y < 65536 ^ (4 - k)) ∧ ds.length = k ∧ Aside0 (Dg ds) ∧ Aside0 (val (ds ++ [y]) = x) ∧
  Aside0 (Kd.R (Kd.int .u64) 122 wr w.heap.size (fun _ => True) v3 ds) ∧ Aside0 (wr.heap[b]? = some (.cells #[.bool false, .slice none 0 0] 85 (0, 0))) ∧ Aside0 (Below w.heap.size w wr)) (fun _ _ v4 _ => 4 - (intOf v4).toNat)
 case atStart => exact ⟨0, x, [], by omega, rfl, rfl, ⟨h0, by simpa using h1⟩, rfl, ⟨Dg.nil⟩, ⟨by simp [val]⟩, HO, HX, HB⟩
 case round =>
  clear HO HX HB
  obtain ⟨k, y, ds, hk, rfl, rfl, hy, hl, HD, HV, HO, HX, HB⟩ := hrel
  by_cases hlt : k < 4
  ·
   have g0 : Int.tmod y 65536 = y % 65536 := Int.tmod_eq_emod_of_nonneg hy.1
   have g1 : Int.tdiv y 65536 = y / 65536 := Int.tdiv_eq_ediv_of_nonneg hy.1
   have g2 : IntKind.u64.wrap (y / 65536) = y / 65536 := by
    have h4 : (65536 : Int) ^ (4 - k) ≤ 18446744073709551616 := by
     have : k = 0 ∨ k = 1 ∨ k = 2 ∨ k = 3 := by omega
     rcases this with rfl | rfl | rfl | rfl <;> decide
    exact u64 (by omega) (by omega)
   have hy2 : 0 ≤ y / 65536 ∧ y / 65536 < 65536 ^ (4 - (k + 1)) := by
    have e : (65536 : Int) ^ (4 - k) = 65536 ^ (4 - (k + 1)) * 65536 := by rw [← Int.pow_succ]; congr 1; omega
    rw [e] at hy
    generalize (65536 : Int) ^ (4 - (k + 1)) = P at hy ⊢
    omega
   have HD2 := am (HD.out.append (Dg.one (x := y % 65536) (by omega) (by omega)))
   have HV2 := am (show val ((ds ++ [y % 65536]) ++ [y / 65536]) = x by
    rw [List.append_assoc, List.singleton_append, val_two, ← HV.out]
    congr 2
    simp
    omega)
   have q0 : decide ((k : Int) < 4) = true := decide_eq_true (by omega)
   have q1 : wrap64 ((k : Int) + 1) = ((k + 1 : Nat) : Int) := cast_succ k (by omega)
   have LIM := am (lim8 ds.length (by rw [hl]; exact Nat.le_trans hk (by decide)))
   have HY2 := am hy2
   have hk1 : k + 1 ≤ 4 := hlt
   have hl1 : (ds ++ [y % 65536]).length = k + 1 := by simp [hl]
   have HL1 := am hl1
   clear HV h0 h1 hy hy2 hl hl1
   go_wp2_with (first
    | ((with_reducible refine gate_builtin (b := .append) (xs := #[.tmp 10, .tmp 13]) rfl ?_); at_builtin; refine Kd.R_append (Kd.int .u64) (w0 := w) w.heap.size rfl (.tmp 10) (.tmp 13) 83 122 (.int .u64 0) 8 rfl Tryz.underlying83 info122 rfl (by decide) (by omega) u3 ds (y % 65536) [.int .u64 (y % 65536)] (fun _ => True) (fun _ => False) rfl rfl rfl (fun _ hk => hk.elim) (fun _ _ => trivial) HO.out HB.out HB.out.size LIM.out ?_; intro v14 w12 ho hb hg hat; have HO2 := am ho; have HB2 := am hb; have HX2 := am (blk_grown HX.out hg (Kd.R_ne HO.out HX.out (by decide))); clear ho hb hg hat))
   go_roundw
   case rel => exact ⟨k + 1, y / 65536, ds ++ [y % 65536], hk1, rfl, rfl, HY2.out, HL1.out, HD2, HV2, HO2, HX2, HB2⟩
   case measure => simp [intOf]; omega
  have hk4 : k = 4 := Nat.le_antisymm hk (Nat.le_of_not_lt hlt)
  subst hk4
  have hy0 : y = 0 := by
   obtain ⟨a, b⟩ := hy
   rw [Nat.sub_self, Int.pow_zero] at b
   omega
  subst hy0
  have HV2 := am (show val ds = x by rw [← HV.out, val_snoc0])
  obtain ⟨A3, c3, rfl⟩ := Kd.R_slice HO.out
  have hl5 : ds.length ≤ 2000 := by rw [hl]; decide
  clear HV hy h0 h1 hl hk hlt
  go_wp2_with fail
  refine (cut_any wr false A3 c3 ds (Kd.R_reads' HO.out).2.2 (Kd.R_reads' HO.out).2.1 HD.out hl5).mono ?_
  rintro e w2 ⟨v, rfl, hv, hb⟩
  rw [if_neg (by decide), HV2.out] at hv
  replace HX := b_b HX hb
  replace HB := b_s HB hb
  clear hb HO HD HV2 hl5
  obtain ⟨ng, A, n, c, rfl⟩ := hv.form
  have HV := am hv
  have c0 := b_l HX 0 rfl
  have c1 := b_l HX 1 rfl
  have f0 := b_z HX 0
  have f1 := b_z HX 1
  clear hv
  go_wp2_with fail
  obtain ⟨r0, r1, hv, hB⟩ := store_big HX.out hbb HB.out HV.out
  generalize (w2.setCell ⟨b, 0, none⟩ (.bool ng)).setCell ⟨b, 1, none⟩ (.slice A n c) = W at r0 r1 hv hB ⊢
  clear c0 c1 f0 f1
  refine ⟨rfl, .agg #[.bool ng, .slice A n c], ?_, _, rfl, hv, hB⟩
  simp [results, Tryz.results84, go_sem, r0, r1]
set_option maxRecDepth 100000 in
set_option maxHeartbeats 4000000 in
theorem of_any (w : World) (x : Int) (h0 : 0 ≤ x) (h1 : x < 9223372036854775808) :
  Calls Tryz.prog 33 #[x] w fun e w' => ∃ v, e = .returned v ∧ IsBig w' v x ∧ Below w.heap.size w w' := by
 have g0 : decide (x < 0) = false := decide_eq_false (by omega)
 have g1 : IntKind.u64.wrap x = x := u64 h0 (by omega)
 have H0 := am h0
 have H1 := am (show x < 18446744073709551616 by omega)
 clear h0 h1
 go_enter Tryz.func33, Tryz.ntmps33
 go_wp2_with fail
 have HX := am (blk_new w (.cells #[.bool false, .slice none 0 0] 85))
 have HB := am (below_alloc (Below.refl w.heap.size w) (.cells #[.bool false, .slice none 0 0] 85))
 obtain ⟨b, hb⟩ := e_x (w.heap.size)
 have hbb : w.heap.size ≤ b := by omega
 rw [← hb] at HX ⊢
 clear hb
 generalize w.alloc (.cells #[.bool false, .slice none 0 0] 85) = w1 at HX HB ⊢
 refine (natural_any w1 x H0.out H1.out).mono ?_
 rintro e w2 ⟨v, rfl, hv, hb⟩
 replace HX := b_b HX hb
 replace HB := b_s HB hb
 clear hb
 obtain ⟨ng, A, n, c, rfl⟩ := hv.form
 have HV := am hv
 have c0 := b_l HX 0 rfl
 have c1 := b_l HX 1 rfl
 have f0 := b_z HX 0
 have f1 := b_z HX 1
 clear hv
 go_wp2_with fail
 obtain ⟨r0, r1, hv, hB⟩ := store_big HX.out hbb HB.out HV.out
 generalize (w2.setCell ⟨b, 0, none⟩ (.bool ng)).setCell ⟨b, 1, none⟩ (.slice A n c) = W at r0 r1 hv hB ⊢
 clear c0 c1 f0 f1
 refine ⟨rfl, .agg #[.bool ng, .slice A n c], ?_, _, rfl, hv, hB⟩
 simp [results, Tryz.results33, go_sem, r0, r1]
end Go.Proofs.YtpdahkgandaabaaGreatDoor.Bg
