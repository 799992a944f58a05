/- A part of the proof of TopAgain, where the package's tables hold what their initialisers lay. -/
import Derived.Deep.Cut
import Derived.Deep.CutRange
import Derived.Test.YtpdahkgandaabaaGreatDoorT01
namespace Go.Proofs.YtpdahkgandaabaaGreatDoor.PTopNames
open Go.RowKit Go.Proofs.YtpdahkgandaabaaGreatDoorW.PrintWords Go.Proofs.YtpdahkgandaabaaGreatDoorW.PrintLast Go.Proofs.YtpdahkgandaabaaGreatDoorW.PrintMore
attribute [local go_sem] max2_int min2_int max_two min_two max_three min_three max_four min_four
set_option linter.unusedVariables false
set_option linter.unusedSimpArgs false
attribute [local go_sem high] eqA124
def IsS93 (w0 W : World) (g : Nat) (f0 : Int) (f1 : Int) (f2 : Int) (f3 : Int) (f4 : Bool) : Prop := W.heap[g]? = some (.cells #[f0, f1, f2, f3, .bool f4] 93 (0, 0)) ∧ w0.heap.size ≤ g
theorem IsS93.grown {w0 W : World} {g : Nat} {f0 : Int} {f1 : Int} {f2 : Int} {f3 : Int} {f4 : Bool} {W1 : World} {row : Option Nat} (h : IsS93 w0 W g f0 f1 f2 f3 f4) (hw : W.grownBy W1 row) (hne : some g ≠ row) : IsS93 w0 W1 g f0 f1 f2 f3 f4 := by
 obtain ⟨hb, hg⟩ := h
 exact ⟨blk_grown hb hw hne, hg⟩
theorem IsS93.kept {w0 W : World} {g : Nat} {f0 : Int} {f1 : Int} {f2 : Int} {f3 : Int} {f4 : Bool} {W1 : World} {S : Nat → Prop} (h : IsS93 w0 W g f0 f1 f2 f3 f4) (hk : Kept W W1 S) (hne : ¬ S g) : IsS93 w0 W1 g f0 f1 f2 f3 f4 := by
 obtain ⟨hb, hg⟩ := h
 exact ⟨blk_kept hb hk hne, hg⟩
theorem IsS93.below {w0 W : World} {g : Nat} {f0 : Int} {f1 : Int} {f2 : Int} {f3 : Int} {f4 : Bool} {W1 : World} (h : IsS93 w0 W g f0 f1 f2 f3 f4) (hw : Below W.heap.size W W1) : IsS93 w0 W1 g f0 f1 f2 f3 f4 := h.grown (grown_of_below hw none) (by simp)
theorem IsS93.alloc {w0 W : World} {g : Nat} {f0 : Int} {f1 : Int} {f2 : Int} {f3 : Int} {f4 : Bool} (h : IsS93 w0 W g f0 f1 f2 f3 f4) (o : Obj) : IsS93 w0 (W.alloc o) g f0 f1 f2 f3 f4 := h.below (below_alloc (Below.refl _ _) o)
theorem IsS93.drewN {w0 W : World} {g : Nat} {f0 : Int} {f1 : Int} {f2 : Int} {f3 : Int} {f4 : Bool} (h : IsS93 w0 W g f0 f1 f2 f3 f4) (m : Nat) : IsS93 w0 (W.drewN m) g f0 f1 f2 f3 f4 := h
theorem IsS93.drew {w0 W : World} {g : Nat} {f0 : Int} {f1 : Int} {f2 : Int} {f3 : Int} {f4 : Bool} (h : IsS93 w0 W g f0 f1 f2 f3 f4) : IsS93 w0 W.drew g f0 f1 f2 f3 f4 := h
theorem IsS93.at_ {w0 W : World} {g : Nat} {f0 : Int} {f1 : Int} {f2 : Int} {f3 : Int} {f4 : Bool} {w' : World} {m : Nat} (hq : W.drewN m = w') (h : IsS93 w0 W g f0 f1 f2 f3 f4) : IsS93 w0 w' g f0 f1 f2 f3 f4 := by subst hq; exact IsS93.drewN h m
theorem IsS93.apart {w0 W : World} {g : Nat} {f0 : Int} {f1 : Int} {f2 : Int} {f3 : Int} {f4 : Bool} {α : Type} {d : Kd α} {e : Nat} {base : Nat} {ok : Nat → Prop} {v : Value} {xs : List α} (h : IsS93 w0 W g f0 f1 f2 f3 f4) (ho : d.R e W base ok v xs) (ht : ∀ q, q ∈ e :: d.E → q ≠ 93) : d.R e W base (fun k => ok k ∧ k ≠ g) v xs := by
 obtain ⟨hb, hg⟩ := h
 exact Kd.R_types ho hb ht
theorem IsS93.own_ne {w0 W : World} {g : Nat} {f0 : Int} {f1 : Int} {f2 : Int} {f3 : Int} {f4 : Bool} {α : Type} {d : Kd α} {e : Nat} {base : Nat} {ok : Nat → Prop} {v : Value} {xs : List α} (h : IsS93 w0 W g f0 f1 f2 f3 f4) (ho : d.R e W base ok v xs) (ht : e ≠ 93) : some g ≠ v.ownBlock := by
 obtain ⟨hb, hg⟩ := h
 exact Kd.R_ne ho hb ht
theorem IsS93.ge {w0 W : World} {g : Nat} {f0 : Int} {f1 : Int} {f2 : Int} {f3 : Int} {f4 : Bool} (h : IsS93 w0 W g f0 f1 f2 f3 f4) : w0.heap.size ≤ g := by
 obtain ⟨hb, hg⟩ := h
 exact hg
theorem IsS93.ne_blk {w0 W : World} {g : Nat} {f0 : Int} {f1 : Int} {f2 : Int} {f3 : Int} {f4 : Bool} {a : Nat} {cs : Array Value} {t : TypeId} {fr : Nat × Nat} (h : IsS93 w0 W g f0 f1 f2 f3 f4) (hb2 : W.heap[a]? = some (.cells cs t fr)) (ht : t ≠ 93) : g ≠ a := by
 obtain ⟨hb, hg⟩ := h
 rintro rfl
 rw [hb] at hb2
 injection hb2 with hb2
 injection hb2 with _ ht2
 exact ht ht2.symm
theorem IsS93.far {w0 W : World} {g : Nat} {f0 : Int} {f1 : Int} {f2 : Int} {f3 : Int} {f4 : Bool} {p : Addr} (h : IsS93 w0 W g f0 f1 f2 f3 f4) (hne : g ≠ p.block) (u : Value) : IsS93 w0 (W.setCell p u) g f0 f1 f2 f3 f4 := by
 obtain ⟨hb, hg⟩ := h
 exact ⟨blk_far hb hne u, hg⟩
theorem cellS93_0 {W : World} {g : Nat} {f0 : Int} {f1 : Int} {f2 : Int} {f3 : Int} {f4 : Bool} (h : W.heap[g]? = some (.cells #[f0, f1, f2, f3, .bool f4] 93 (0, 0))) : W.cell? ⟨g, 0, none⟩ = some (.int .i64 f0) := (blk_cell h 0).trans rfl
theorem cellS93_1 {W : World} {g : Nat} {f0 : Int} {f1 : Int} {f2 : Int} {f3 : Int} {f4 : Bool} (h : W.heap[g]? = some (.cells #[f0, f1, f2, f3, .bool f4] 93 (0, 0))) : W.cell? ⟨g, 1, none⟩ = some (.int .i64 f1) := (blk_cell h 1).trans rfl
theorem cellS93_2 {W : World} {g : Nat} {f0 : Int} {f1 : Int} {f2 : Int} {f3 : Int} {f4 : Bool} (h : W.heap[g]? = some (.cells #[f0, f1, f2, f3, .bool f4] 93 (0, 0))) : W.cell? ⟨g, 2, none⟩ = some (.int .i64 f2) := (blk_cell h 2).trans rfl
theorem cellS93_3 {W : World} {g : Nat} {f0 : Int} {f1 : Int} {f2 : Int} {f3 : Int} {f4 : Bool} (h : W.heap[g]? = some (.cells #[f0, f1, f2, f3, .bool f4] 93 (0, 0))) : W.cell? ⟨g, 3, none⟩ = some (.int .i64 f3) := (blk_cell h 3).trans rfl
theorem IsS93.set_3 {w0 W : World} {g : Nat} {f0 : Int} {f1 : Int} {f2 : Int} {f3 : Int} {f4 : Bool} (h : IsS93 w0 W g f0 f1 f2 f3 f4) (x : Int) : IsS93 w0 (W.setCell ⟨g, 3, none⟩ (.int .i64 x)) g f0 f1 f2 x f4 := by
 obtain ⟨hb, hg⟩ := h
 exact ⟨by simpa using blk_set hb 3 (.int .i64 x), hg⟩
theorem cellS93_4 {W : World} {g : Nat} {f0 : Int} {f1 : Int} {f2 : Int} {f3 : Int} {f4 : Bool} (h : W.heap[g]? = some (.cells #[f0, f1, f2, f3, .bool f4] 93 (0, 0))) : W.cell? ⟨g, 4, none⟩ = some (.bool f4) := (blk_cell h 4).trans rfl
theorem IsS93.set_4 {w0 W : World} {g : Nat} {f0 : Int} {f1 : Int} {f2 : Int} {f3 : Int} {f4 : Bool} (h : IsS93 w0 W g f0 f1 f2 f3 f4) (x : Bool) : IsS93 w0 (W.setCell ⟨g, 4, none⟩ (.bool x)) g f0 f1 f2 f3 x := by
 obtain ⟨hb, hg⟩ := h
 exact ⟨by simpa using blk_set hb 4 (.bool x), hg⟩
def ground_New.f (a0 : Int) (a1 : Int) (a2 : Int) : Option (Int × Int × Int × Int × Bool) := some (mx a0 0, a1, a2, 0, false)
set_option maxHeartbeats 8000000 in
set_option maxRecDepth 100000 in
theorem ground_New.calls (a0 : Int) (a1 : Int) (a2 : Int) (r1 : Int) (r2 : Int) (r3 : Int) (r4 : Int) (r5 : Bool) (w0 w : World) (hB : Below w0.heap.size w0 w) (h : ground_New.f a0 a1 a2 = some (r1, r2, r3, r4, r5)) :
  Calls Tryz.prog 21 #[a0, a1, a2] w fun e w' => ∃ g_ : Nat, e = .returned (.pointer (some ⟨g_, 0, none⟩)) ∧ IsS93 w0 w' g_ r1 r2 r3 r4 r5 ∧ Below w0.heap.size w0 w' ∧ Below w.heap.size w w' := by
 have hu93 := Tryz.underlying93
 have HBW := am (Below.refl w.heap.size w)
 have HW0 := am hB.size
 have HB := am hB
 clear hB
 have H : (some (mx a0 0, a1, a2, 0, false)) = some (r1, r2, r3, r4, r5) := h
 clear h
 obtain ⟨ji4, hji4⟩ : ∃ j_ : Int, (mx a0 0) = j_ := ⟨_, rfl⟩
 replace H : (some (ji4, a1, a2, 0, false)) = some (r1, r2, r3, r4, r5) := by first | (rw [hji4] at H; exact H) | (simp only [hji4] at H ⊢; exact H)
 (try (have hji4l : 0 ≤ ji4 := by (rw [← hji4]; unfold mx; (repeat' split) <;> omega)))
 (try (have hji4m : 0 ≤ ji4 := by omega))
 have hji4_ : (if a0 < 0 then 0 else a0) = ji4 := hji4
 simp only [Option.some.injEq, Prod.mk.injEq] at H
 obtain ⟨rfl, rfl, rfl, rfl, rfl⟩ := H
 go_enter Tryz.func21, Tryz.ntmps21
 go_wp2_with (first | ((with_reducible refine gate_dst (N := 12) rfl ?_); refine box_event ?hg (N := 12) ?hd (cs := #[.int .i64 ji4, .int .i64 a1, .int .i64 a2, .int .i64 0, .bool false]) (t := 93) ?hr ?_; (case hd => rfl); (case hg => rfl); (case hr => first | (go_simp; done) | (go_simp; rfl)); intro gb101 hg w5 hbox hb; have n0_ := b_s HBW hb; have n1_ := am (below_step (b_R) hb); have n2_ := am (hbox); have n3_ := am ((by rw [hg]; exact (below_size (by repeat (first | (with_reducible first | exact HBW.out | apply below_alloc | apply pw_below_drewN | apply below_drew1) | exact HBW.out))) : w.heap.size ≤ gb101)); have n4_ := am ((Nat.le_trans HW0.out (by rw [hg]; exact (below_size (by repeat (first | (with_reducible first | exact HBW.out | apply below_alloc | apply pw_below_drewN | apply below_drew1) | exact HBW.out))) : w.heap.size ≤ gb101) : w0.heap.size ≤ gb101)); clear HBW; clear HB; have HBW := n0_; have HB := n1_; have BK101 := n2_; have GW101 := n3_; have GE101 := n4_; clear n0_ n1_ n2_ n3_ n4_; clear hb hbox hg))
 go_ret
 exact ⟨_, rfl, (show IsS93 w0 _ gb101 ji4 a1 a2 0 false from ⟨by (with_reducible repeat (first | refine blk_drewN ?_ _ | refine blk_drew ?_ | refine blk_alloc ?_ _)); exact BK101.out, GE101.out⟩), by repeat (first | (with_reducible first | exact HB.out | apply below_alloc | apply pw_below_drewN | apply below_drew1 | refine below_set ?_ GE101.out) | exact HB.out), by repeat (first | (with_reducible first | exact HBW.out | apply below_alloc | apply pw_below_drewN | apply below_drew1 | refine below_set ?_ GW101.out) | exact HBW.out)⟩
def atmos_Good.f (a0 : Int) : Option (Bool) := if a0 ≥ 90528 then (some (decide (a0 ≤ 430515))) else (some false)
set_option maxHeartbeats 8000000 in
set_option maxRecDepth 100000 in
theorem atmos_Good.calls (a0 : Int) (r : Bool) (w : World) (h : atmos_Good.f a0 = some r) :
  Calls Tryz.prog 91 #[a0] w fun e w' => e = .returned (.bool r) ∧ Drawn0 w w' := by
 have H : (if a0 ≥ 90528 then (some (decide (a0 ≤ 430515))) else (some false)) = some r := h
 clear h
 by_cases c2 : a0 ≥ 90528
 ·
  rw [if_pos c2] at H
  have c2b0 : decide (90528 ≤ a0) = true := decide_eq_true c2
  clear c2
  obtain rfl := Option.some.inj H
  go_enter Tryz.func91, Tryz.ntmps91
  go_wp2
  go_ret
  exact f_0
 rw [if_neg c2] at H
 have c2b0 : decide (90528 ≤ a0) = false := decide_eq_false c2
 clear c2
 obtain rfl := Option.some.inj H
 go_enter Tryz.func91, Tryz.ntmps91
 go_wp2
 go_ret
 exact f_0
def baro_kind.f (a0_0 : Int) (a0_1 : Bool) (a0_2 : Int) (a0_3 : Bool) : Option (Int) := if a0_1 = true then ((atmos_Good.f a0_2).bind fun t103 => (if t103 = true then (some 0) else (some 1))) else (some 2)
def baro_Brings.f (a0_0 : Int) (a0_1 : Bool) (a0_2 : Int) (a0_3 : Bool) : Option (Int × Bool) := (baro_kind.f a0_0 a0_1 a0_2 a0_3).bind fun t105 => (if t105 = 0 then (some (a0_2, true)) else (some (0, false)))
def mode_Clock_Seeks.f (a0_0 : Int) (a0_1 : Int) : Option (Bool) := if a0_0 = 0 then (some true) else (some (a0_0 == 3))
def mean_Of.l0 : Nat → List Int → Int → List Int → Int → Int → Option (Int × Int)
 | 0, _, _, _, _, _ => none
 | k + 1, x0, x4, x10, x11, x12 => if x12 < x11 then (if 0 ≤ x12 then (if x12 < (x10.length : Int) then ((atmos_Good.f (rd x10 x12)).bind fun t108 => (if t108 = true then (mean_Of.l0 k x0 (wrap64 (x4 + (rd x10 x12))) x10 x11 (wrap64 (x12 + 1))) else (some (0, 2)))) else (none)) else (none)) else (if (x0.length : Int) = 0 then (none) else (some (wrap64 (Int.tdiv x4 (x0.length : Int)), 0)))
def mean_Of.f (k : Nat) (l0 : List Int) : Option (Int × Int) := if (l0.length : Int) = 0 then (some (0, 4)) else (mean_Of.l0 k l0 0 l0 (l0.length : Int) 0)
set_option maxHeartbeats 8000000 in
set_option maxRecDepth 100000 in
theorem mean_Of.calls (k : Nat) (A0 : Option Addr) (c0 : Nat) (l0 : List Int) (r1 : Int) (r2 : Int) (w : World) (hr0 : Kd.C (Kd.int .i64) w A0 l0.length l0) (hc0 : l0.length ≤ c0) (h : mean_Of.f k l0 = some (r1, r2)) :
  Calls Tryz.prog 64 #[.slice A0 l0.length c0] w fun e w' => e = .returned (.tuple #[r1, r2]) ∧ Drawn0 w w' := by
 have HR0 := am hr0
 have HC0 := am hc0
 clear hr0 hc0
 have H : (if (l0.length : Int) = 0 then (some (0, 4)) else (mean_Of.l0 k l0 0 l0 (l0.length : Int) 0)) = some (r1, r2) := h
 clear h
 by_cases c2 : (l0.length : Int) = 0
 ·
  rw [if_pos c2] at H
  have c2b0 : ((l0.length : Int) == 0) = true := beq_iff_eq.mpr c2
  have c2b1 : ((l0.length : Int) != 0) = false := bne_eq_false_iff_eq.mpr c2
  clear c2
  simp only [Option.some.injEq, Prod.mk.injEq] at H
  obtain ⟨rfl, rfl⟩ := H
  go_enter Tryz.func64, Tryz.ntmps64
  go_wp2
  go_ret2
  exact f_0
 rw [if_neg c2] at H
 have c2b0 : ((l0.length : Int) == 0) = false := beq_eq_false_iff_ne.mpr c2
 have c2b1 : ((l0.length : Int) != 0) = true := bne_iff_ne.mpr c2
 have c2b2 : ¬ (l0 = []) := fun h_ => c2 (by rw [h_]; rfl)
 have H' := am H
 clear H
 go_enter Tryz.func64, Tryz.ntmps64
 go_wp2
 go_loopg [4, 12] k (fun kq v4 v12 w' => ∃ (x4_1 : Int) (x12_1 : Int), v4 = .int .i64 x4_1 ∧ v12 = .int .i64 x12_1 ∧ Aside0 (mean_Of.l0 kq l0 x4_1 l0 (l0.length : Int) x12_1 = some (r1, r2)) ∧ Aside0 (kq ≤ k) ∧ Drawn0 w w')
 case atStart => exact ⟨(0), (0), (by first | rfl | (simp; done) | (simp [*]; done)), (by first | rfl | (simp; done) | (simp [*]; done)), H', ⟨Nat.le_refl _⟩, by repeat (first | exact Drawn0.refl _ | apply Drawn0.step)⟩
 case round =>
  clear H'
  try clear c2
  try clear c2b0
  try clear c2b1
  try clear c2b2
  try clear p2
  obtain ⟨x4_1, x12_1, rfl, rfl, HA, HK1, ⟨m1, rfl⟩⟩ := hrel
  cases gk with
  | zero => exact absurd HA.out (by simp [mean_Of.l0])
  | succ k1 =>
   have H := HA.out
   clear HA
   simp only [mean_Of.l0] at H
   by_cases c3 : x12_1 < (l0.length : Int)
   ·
    rw [if_pos c3] at H
    have c3b0 : decide (x12_1 < (l0.length : Int)) = true := decide_eq_true c3
    clear c3
    by_cases c4 : 0 ≤ x12_1
    ·
     rw [if_pos c4] at H
     have c4b0 : decide (0 ≤ x12_1) = true := decide_eq_true c4
     clear c4
     by_cases c5 : x12_1 < (l0.length : Int)
     ·
      rw [if_pos c5] at H
      have c5b0 : decide (x12_1 < (l0.length : Int)) = true := decide_eq_true c5
      clear c5
      replace H := Option.bind_eq_some_iff.mp H
      obtain ⟨t108, A60, H⟩ := H
      replace H : (if t108 = true then (mean_Of.l0 k1 l0 (wrap64 (x4_1 + (rd l0 x12_1))) l0 (l0.length : Int) (wrap64 (x12_1 + 1))) else (some (0, 2))) = some (r1, r2) := H
      have A6 := am A60
      clear A60
      by_cases c7 : t108 = true
      ·
       subst c7
       have H1 : (mean_Of.l0 k1 l0 (wrap64 (x4_1 + (rd l0 x12_1))) l0 (l0.length : Int) (wrap64 (x12_1 + 1))) = some (r1, r2) := by rw [if_pos rfl] at H; exact H
       clear H
       have H := H1
       clear H1
       have H' := am H
       clear H
       have p107 : 0 ≤ (x12_1 : Int) := of_decide_eq_true (by first | (with_reducible assumption) | assumption)
       have q107 : x12_1 < (l0.length : Int) := of_decide_eq_true (by first | (with_reducible assumption) | assumption)
       obtain ⟨ad107, e107, hx107_0⟩ := Kd.at_int HR0.out x12_1 p107 q107
       cases e107
       replace p107 := eq_true p107
       replace q107 := eq_true q107
       go_wp2_with (first | ((with_reducible refine gate_callee (f := 91) rfl ?_); refine g_L 17 Tryz.func91 #[.int .i64 (rd l0 x12_1)] ?_; (with_reducible refine (atmos_Good.calls (rd l0 x12_1) true _ A6.out).mono ?_); rintro e w' ⟨rfl, ⟨nd, rfl⟩⟩; refine ⟨_, rfl, ?_⟩))
       go_roundg k1
       case measure => have := HK1.out; omega
       case rel => exact ⟨(wrap64 (x4_1 + (rd l0 x12_1))), (wrap64 (x12_1 + 1)), (by first | rfl | (simp; done) | (simp [*]; done)), (by first | rfl | (simp; done) | (simp [*]; done)), H', ⟨by have := HK1.out; omega⟩, by repeat (first | exact Drawn0.refl _ | apply Drawn0.step)⟩
      replace c7 := Bool.eq_false_iff.mpr c7
      subst c7
      have H1 : (some (0, 2)) = some (r1, r2) := by rw [if_neg (show ¬ (false = true) by decide)] at H; exact H
      clear H
      have H := H1
      clear H1
      simp only [Option.some.injEq, Prod.mk.injEq] at H
      obtain ⟨rfl, rfl⟩ := H
      have p107 : 0 ≤ (x12_1 : Int) := of_decide_eq_true (by first | (with_reducible assumption) | assumption)
      have q107 : x12_1 < (l0.length : Int) := of_decide_eq_true (by first | (with_reducible assumption) | assumption)
      obtain ⟨ad107, e107, hx107_0⟩ := Kd.at_int HR0.out x12_1 p107 q107
      cases e107
      replace p107 := eq_true p107
      replace q107 := eq_true q107
      go_wp2_with (first | ((with_reducible refine gate_callee (f := 91) rfl ?_); refine g_L 17 Tryz.func91 #[.int .i64 (rd l0 x12_1)] ?_; (with_reducible refine (atmos_Good.calls (rd l0 x12_1) false _ A6.out).mono ?_); rintro e w' ⟨rfl, ⟨nd, rfl⟩⟩; refine ⟨_, rfl, ?_⟩))
      go_ret2
      exact f_0
     rw [if_neg c5] at H
     exact absurd H (by simp)
    rw [if_neg c4] at H
    exact absurd H (by simp)
   rw [if_neg c3] at H
   have c3b0 : decide (x12_1 < (l0.length : Int)) = false := decide_eq_false c3
   clear c3
   by_cases c8 : (l0.length : Int) = 0
   ·
    rw [if_pos c8] at H
    exact absurd H (by simp)
   rw [if_neg c8] at H
   have c8b0 : ((l0.length : Int) == 0) = false := beq_eq_false_iff_ne.mpr c8
   have c8b1 : ((l0.length : Int) != 0) = true := bne_iff_ne.mpr c8
   have c8b2 : ¬ (l0 = []) := fun h_ => c8 (by rw [h_]; rfl)
   simp only [Option.some.injEq, Prod.mk.injEq] at H
   obtain ⟨rfl, rfl⟩ := H
   go_wp2
   go_ret2
   exact f_0
def wide_Of.f (a0 : Int) : Option (Int × Int) := some (a0 / 9223372036854775808, IntKind.u64.wrap (a0))
set_option maxHeartbeats 8000000 in
set_option maxRecDepth 100000 in
theorem wide_Of.calls (a0 : Int) (r1 : Int) (r2 : Int) (w : World) (h : wide_Of.f a0 = some (r1, r2)) :
  Calls Tryz.prog 79 #[a0] w fun e w' => e = .returned (.agg #[r1, .int .u64 r2]) ∧ Below w.heap.size w w' := by
 have hu124 := Tryz.underlying124
 have HB := am (Below.refl w.heap.size w)
 have H : (some (a0 / 9223372036854775808, IntKind.u64.wrap (a0))) = some (r1, r2) := h
 clear h
 simp only [Option.some.injEq, Prod.mk.injEq] at H
 obtain ⟨rfl, rfl⟩ := H
 go_enter Tryz.func79, Tryz.ntmps79
 go_wp2_with (first | ((with_reducible refine gate_dst (N := 2) rfl ?_); refine box_event ?hg (N := 2) ?hd (cs := #[.int .i64 0, .int .u64 0]) (t := 124) ?hr ?_; (case hd => rfl); (case hg => rfl); (case hr => first | (go_simp; done) | (go_simp; rfl)); intro gb110 hg w2 hbox hb; have n0_ := am (below_step (b_R) hb); have n1_ := am (hbox); have n2_ := am ((by rw [hg]; exact (below_size (b_R)) : w.heap.size ≤ gb110)); have n3_ := am ((by rw [hg]; exact (below_size (b_R)) : w.heap.size ≤ gb110)); clear HB; have HB := n0_; have BK110 := n1_; have GW110 := n2_; have GE110 := n3_; clear n0_ n1_ n2_ n3_; clear hb hbox hg; have hcz3_0 : w2.cell? ⟨gb110, 0, none⟩ = some (.int .i64 0) := (blk_cell BK110.out 0).trans rfl; have hcz3_1 : w2.cell? ⟨gb110, 1, none⟩ = some (.int .u64 0) := (blk_cell BK110.out 1).trans rfl; have hfz3_0 := b_z BK110 0; have hfz3_1 := b_z BK110 1))
 refine bodyPost_ret (results_cell_row rfl _ _ gb110 124 #[.int .i64 (a0 / 9223372036854775808), .int .u64 (IntKind.u64.wrap (a0))] (0, 0) _ rfl (by (with_reducible repeat (first | refine blk_drewN ?_ _ | refine blk_drew ?_ | refine blk_alloc ?_ _)); refine blk_put (cs := #[.int .i64 (a0 / 9223372036854775808), .int .u64 0]) ?_ 1 _ rfl; (with_reducible repeat (first | refine blk_drewN ?_ _ | refine blk_drew ?_ | refine blk_alloc ?_ _)); refine blk_put (cs := #[.int .i64 0, .int .u64 0]) ?_ 0 _ rfl; (with_reducible repeat (first | refine blk_drewN ?_ _ | refine blk_drew ?_ | refine blk_alloc ?_ _)); exact BK110.out) Tryz.underlying124 rfl (by kernel_rfl)) rfl ?_
 exact ⟨by first | rfl | (simp [errW_none, errW_some] <;> rfl) | (simp [*, errW_none, errW_some] <;> rfl), by repeat (first | (with_reducible first | exact HB.out | apply below_alloc | apply pw_below_drewN | apply below_drew1 | refine below_set ?_ GE110.out) | exact HB.out)⟩
def fix_Fits.f (a0 : Int) : Option (Bool) := if a0 ≥ (-288230376151711744) then (some (decide (a0 ≤ 288230376151711744))) else (some false)
set_option maxHeartbeats 8000000 in
set_option maxRecDepth 100000 in
theorem fix_Fits.calls (a0 : Int) (r : Bool) (w : World) (h : fix_Fits.f a0 = some r) :
  Calls Tryz.prog 90 #[a0] w fun e w' => e = .returned (.bool r) ∧ Drawn0 w w' := by
 have H : (if a0 ≥ (-288230376151711744) then (some (decide (a0 ≤ 288230376151711744))) else (some false)) = some r := h
 clear h
 by_cases c2 : a0 ≥ (-288230376151711744)
 ·
  rw [if_pos c2] at H
  have c2b0 : decide ((-288230376151711744) ≤ a0) = true := decide_eq_true c2
  clear c2
  obtain rfl := Option.some.inj H
  go_enter Tryz.func90, Tryz.ntmps90
  go_wp2
  go_ret
  exact f_0
 rw [if_neg c2] at H
 have c2b0 : decide ((-288230376151711744) ≤ a0) = false := decide_eq_false c2
 clear c2
 obtain rfl := Option.some.inj H
 go_enter Tryz.func90, Tryz.ntmps90
 go_wp2
 go_ret
 exact f_0
def fix_same.f (a0 : Int) : Option (Int × Int) := some (a0, 0)
set_option maxHeartbeats 8000000 in
set_option maxRecDepth 100000 in
theorem fix_same.calls (a0 : Int) (r1 : Int) (r2 : Int) (w : World) (h : fix_same.f a0 = some (r1, r2)) :
  Calls Tryz.prog 128 #[a0] w fun e w' => e = .returned (.tuple #[r1, r2]) ∧ Drawn0 w w' := by
 have H : (some (a0, 0)) = some (r1, r2) := h
 clear h
 simp only [Option.some.injEq, Prod.mk.injEq] at H
 obtain ⟨rfl, rfl⟩ := H
 go_enter Tryz.func128, Tryz.ntmps128
 go_wp2
 go_ret2
 exact f_0
def wide_down.f (a0_0 : Int) (a0_1 : Int) : Option (Int × Int × Int) := some (a0_0 / 2, Go.bits .or .u64 (a0_1 / 2) (IntKind.u64.wrap ((IntKind.u64.wrap (a0_0)) * 9223372036854775808)), Go.bits .and .u64 a0_1 1)
def wide_down.T1 : Bool × List (List Nat × List Nat) := (true, [([], []), ([0], [0]), ([1], [1]), ([], []), ([3], [3]), ([4], [4]), ([], []), ([6], [6]), ([7], [7]), ([8], [8]), ([5, 9], [5, 9]), ([2, 10], [2, 10]), ([], []), ([12], [12]), ([13], [13]), ([11, 0, 1, 2, 3, 4, 5, 6, 7, 8, 9, 10, 11], [11]), ([14, 15, 0, 1, 2, 3, 4, 5, 6, 7, 8, 9, 10, 11, 12, 13, 14, 15], [14])])
def wide_down.B1 : List Nat := [0, 1, 3, 0, 8, 24, 0, 64, 192, 448, 1016, 2047, 0, 4096, 12288, 4095, 65535]
theorem wide_down.tab1 : rtab .any (opsOf Tryz.f122 1) = wide_down.T1 := by kernel_rfl
theorem wide_down.bits1 : waitsOk wide_down.T1.2 wide_down.B1 = true := by kernel_rfl
set_option maxHeartbeats 8000000 in
set_option maxRecDepth 100000 in
theorem wide_down.calls (a0_0 : Int) (a0_1 : Int) (r1 : Int) (r2 : Int) (r3 : Int) (w : World) (h : wide_down.f a0_0 a0_1 = some (r1, r2, r3)) :
  Calls Tryz.prog 122 #[.agg #[a0_0, .int .u64 a0_1]] w fun e w' => e = .returned (.tuple #[.agg #[r1, .int .u64 r2], .int .u64 r3]) ∧ Below w.heap.size w w' := by
 have hu124 := Tryz.underlying124
 have HB := am (Below.refl w.heap.size w)
 have H : (some (a0_0 / 2, Go.bits .or .u64 (a0_1 / 2) (IntKind.u64.wrap ((IntKind.u64.wrap (a0_0)) * 9223372036854775808)), Go.bits .and .u64 a0_1 1)) = some (r1, r2, r3) := h
 clear h
 simp only [Option.some.injEq, Prod.mk.injEq] at H
 obtain ⟨rfl, rfl, rfl⟩ := H
 go_enter Tryz.func122, Tryz.ntmps122
 try go_wp2_with (first | ((with_reducible refine gate_dst (N := 1) rfl ?_); refine box_event ?hg (N := 1) ?hd (cs := #[.int .i64 a0_0, .int .u64 a0_1]) (t := 124) ?hr ?_; (case hd => rfl); (case hg => rfl); (case hr => first | (go_simp; done) | (go_simp; rfl)); intro gb111 hg w2 hbox hb; have n0_ := am (below_step (b_R) hb); have n1_ := am (hbox); have n2_ := am ((by rw [hg]; exact (below_size (b_R)) : w.heap.size ≤ gb111)); have n3_ := am ((by rw [hg]; exact (below_size (b_R)) : w.heap.size ≤ gb111)); clear HB; have HB := n0_; have BK111 := n1_; have GW111 := n2_; have GE111 := n3_; clear n0_ n1_ n2_ n3_; clear hb hbox hg) | ((with_reducible refine gate_dst (N := 2) rfl ?_); refine box_event ?hg (N := 2) ?hd (cs := #[.int .i64 0, .int .u64 0]) (t := 124) ?hr ?_; (case hd => rfl); (case hg => rfl); (case hr => first | (go_simp; done) | (go_simp; rfl)); intro gb112 hg w3 hbox hb; have n0_ := am (blk_below (g := gb111) (o := .cells #[a0_0, .int .u64 a0_1] 124 (0, 0)) (by (with_reducible repeat (first | refine blk_drewN ?_ _ | refine blk_drew ?_ | refine blk_alloc ?_ _)); exact BK111.out) hb); have n1_ := am (below_step (by repeat (first | (with_reducible first | exact HB.out | apply below_alloc | apply pw_below_drewN | apply below_drew1 | refine below_set ?_ GE111.out) | exact HB.out)) hb); have n2_ := am (hbox); have n3_ := am ((by rw [hg]; exact (below_size (by repeat (first | (with_reducible first | exact HB.out | apply below_alloc | apply pw_below_drewN | apply below_drew1 | refine below_set ?_ GE111.out) | exact HB.out))) : w.heap.size ≤ gb112)); have n4_ := am ((by rw [hg]; exact (below_size (by repeat (first | (with_reducible first | exact HB.out | apply below_alloc | apply pw_below_drewN | apply below_drew1 | refine below_set ?_ GE111.out) | exact HB.out))) : w.heap.size ≤ gb112)); have n5_ := am ((by rw [hg]; exact Nat.ne_of_lt (blk_lt (g := gb111) (o := .cells #[a0_0, .int .u64 a0_1] 124 (0, 0)) (by (with_reducible repeat (first | refine blk_drewN ?_ _ | refine blk_drew ?_ | refine blk_alloc ?_ _)); exact BK111.out)) : gb111 ≠ gb112)); have n6_ := am ((by rw [hg]; exact Nat.ne_of_gt (blk_lt (g := gb111) (o := .cells #[a0_0, .int .u64 a0_1] 124 (0, 0)) (by (with_reducible repeat (first | refine blk_drewN ?_ _ | refine blk_drew ?_ | refine blk_alloc ?_ _)); exact BK111.out)) : gb112 ≠ gb111)); clear BK111; clear HB; have BK111 := n0_; have HB := n1_; have BK112 := n2_; have GW112 := n3_; have GE112 := n4_; have NB111_112 := n5_; have NB112_111 := n6_; clear n0_ n1_ n2_ n3_ n4_ n5_ n6_; clear hb hbox hg))
 have n0_ := b_d BK111
 have n1_ := b_d BK112
 have n2_ := am (below_drew1 HB.out)
 clear BK111
 clear BK112
 clear HB
 have BK111 := n0_
 have BK112 := n1_
 have HB := n2_
 clear n0_ n1_ n2_
 refine s_t 17 (fun w' => w'.cell? ⟨gb111, 0, none⟩ = some (.int .i64 a0_0) ∧ w'.cell? ⟨gb111, 1, none⟩ = some (.int .u64 a0_1)) ⟨(blk_cell BK111.out 0).trans rfl, (blk_cell BK111.out 1).trans rfl⟩ (fun hHeld => ?_); refine with_tabW wide_down.tab1 wide_down.bits1 (fun HT_ HW_ => ?_)
 generalize w3.drew = w4 at BK111 BK112 HB hHeld ⊢
 refine pure_ (i := 0) (N := some 4) (v := ?_) (a' := ?_) (flg 17 1) rfl rfl (any_of HT_.out (by kernel_rfl)) (fun _ _ _ h => h) (Or.inl ⟨by rfl, ?_⟩) ?_ ?_
 rotate_left
 ·
  intro w'
  go_simp
  with_reducible rfl
 rotate_left
 ·
  simp only [pw]
  rfl
 refine pure_ (i := 3) (N := some 7) (v := ?_) (a' := ?_) (flg 17 9) rfl rfl (any_of HT_.out (by kernel_rfl)) (fun _ _ _ h => h) (Or.inl ⟨by rfl, ?_⟩) ?_ ?_
 rotate_left
 ·
  intro w'
  go_simp
  with_reducible rfl
 rotate_left
 ·
  simp only [pw]
  rfl
 refine pure_ (i := 6) (N := some 10) (v := ?_) (a' := ?_) (flg 17 73) rfl rfl (any_of HT_.out (by kernel_rfl)) (fun _ _ _ h => h) (Or.inl ⟨by rfl, ?_⟩) ?_ ?_
 rotate_left
 ·
  intro w'
  go_simp
  with_reducible rfl
 rotate_left
 ·
  simp only [pw]
  rfl
 refine pure_ (i := 12) (N := some 16) (v := ?_) (a' := ?_) (flg 17 4169) rfl rfl (any_of HT_.out (by kernel_rfl)) (fun _ _ _ h => h) (Or.inl ⟨by rfl, ?_⟩) ?_ ?_
 rotate_left
 ·
  intro w'
  go_simp
  with_reducible rfl
 rotate_left
 ·
  simp only [pw]
  rfl
 refine take_ (i := 1) (N := some 5) (v := ?_) (a' := ?_) (flg 17 4171) rfl rfl (take_ofW HT_.out HW_.out (by kernel_rfl)) (fun _ _ _ h => h) (Or.inl ⟨by rfl, ?_⟩) hHeld ?_ ?_
 rotate_left
 ·
  rintro w' ⟨s0, s1⟩
  go_simp
  with_reducible rfl
 rotate_left
 ·
  simp only [pw]
  rfl
 refine pure_ (i := 2) (N := some 6) (v := ?_) (a' := ?_) (flg 17 4175) rfl rfl (any_of HT_.out (by kernel_rfl)) (fun _ _ _ h => h) (Or.inl ⟨by rfl, ?_⟩) ?_ ?_
 rotate_left
 ·
  intro w'
  go_simp
  with_reducible rfl
 rotate_left
 ·
  simp only [pw]
  rfl
 refine take_ (i := 4) (N := some 8) (v := ?_) (a' := ?_) (flg 17 4191) rfl rfl (take_ofW HT_.out HW_.out (by kernel_rfl)) (fun _ _ _ h => h) (Or.inl ⟨by rfl, ?_⟩) hHeld ?_ ?_
 rotate_left
 ·
  rintro w' ⟨s0, s1⟩
  go_simp
  with_reducible rfl
 rotate_left
 ·
  simp only [pw]
  rfl
 refine pure_ (i := 5) (N := some 9) (v := ?_) (a' := ?_) (flg 17 4223) rfl rfl (any_of HT_.out (by kernel_rfl)) (fun _ _ _ h => h) (Or.inl ⟨by rfl, ?_⟩) ?_ ?_
 rotate_left
 ·
  intro w'
  go_simp
  with_reducible rfl
 rotate_left
 ·
  simp only [pw]
  rfl
 refine take_ (i := 7) (N := some 11) (v := ?_) (a' := ?_) (flg 17 4351) rfl rfl (take_ofW HT_.out HW_.out (by kernel_rfl)) (fun _ _ _ h => h) (Or.inl ⟨by rfl, ?_⟩) hHeld ?_ ?_
 rotate_left
 ·
  rintro w' ⟨s0, s1⟩
  go_simp
  with_reducible rfl
 rotate_left
 ·
  simp only [pw]
  rfl
 refine pure_ (i := 8) (N := some 12) (v := ?_) (a' := ?_) (flg 17 4607) rfl rfl (any_of HT_.out (by kernel_rfl)) (fun _ _ _ h => h) (Or.inl ⟨by rfl, ?_⟩) ?_ ?_
 rotate_left
 ·
  intro w'
  go_simp
  with_reducible rfl
 rotate_left
 ·
  simp only [pw]
  rfl
 refine pure_ (i := 9) (N := some 13) (v := ?_) (a' := ?_) (flg 17 5119) rfl rfl (any_of HT_.out (by kernel_rfl)) (fun _ _ _ h => h) (Or.inl ⟨by rfl, ?_⟩) ?_ ?_
 rotate_left
 ·
  intro w'
  go_simp
  with_reducible rfl
 rotate_left
 ·
  simp only [pw]
  rfl
 refine pure_ (i := 10) (N := some 14) (v := ?_) (a' := ?_) (flg 17 6143) rfl rfl (any_of HT_.out (by kernel_rfl)) (fun _ _ _ h => h) (Or.inl ⟨by rfl, ?_⟩) ?_ ?_
 rotate_left
 ·
  intro w'
  go_simp
  with_reducible rfl
 rotate_left
 ·
  simp only [pw]
  rfl
 refine pure_ (i := 11) (N := some 15) (v := ?_) (a' := ?_) (flg 17 8191) rfl rfl (any_of HT_.out (by kernel_rfl)) (fun _ _ _ h => h) (Or.inl ⟨by rfl, ?_⟩) ?_ ?_
 rotate_left
 ·
  intro w'
  go_simp
  with_reducible rfl
 rotate_left
 ·
  simp only [pw]
  rfl
 refine take_ (i := 13) (N := some 17) (v := ?_) (a' := ?_) (flg 17 16383) rfl rfl (take_ofW HT_.out HW_.out (by kernel_rfl)) (fun _ _ _ h => h) (Or.inl ⟨by rfl, ?_⟩) hHeld ?_ ?_
 rotate_left
 ·
  rintro w' ⟨s0, s1⟩
  go_simp
  with_reducible rfl
 rotate_left
 ·
  simp only [pw]
  rfl
 refine pure_ (i := 14) (N := some 18) (v := ?_) (a' := ?_) (flg 17 32767) rfl rfl (any_of HT_.out (by kernel_rfl)) (fun _ _ _ h => h) (Or.inl ⟨by rfl, ?_⟩) ?_ ?_
 rotate_left
 ·
  intro w'
  go_simp
  with_reducible rfl
 rotate_left
 ·
  simp only [pw]
  rfl
 refine one_ (i := 15) (N := none) (flg 17 65535) rfl rfl (one_of HT_.out (by kernel_rfl)) (by decide) (fun K hK => ?_)
 have hs5 := b_l BK112 0 rfl
 have hfs5 := b_z BK112 0
 have hns5_0 := NB111_112.out
 have hms5_0 := NB112_111.out
 have hs6 := b_l BK112 1 rfl
 have hfs6 := b_z BK112 1
 have hns6_0 := NB111_112.out
 have hms6_0 := NB112_111.out
 refine skip_ (w1 := ?_) (by rfl) rfl ?_ ?_
 rotate_left
 ·
  go_simp
  rfl
 refine hK.out _ _ ⟨((cell_far (p := ⟨gb112, _, none⟩) NB111_112.out _).trans (((cell_far (p := ⟨gb112, _, none⟩) NB111_112.out _).trans (hHeld.1)))), ((cell_far (p := ⟨gb112, _, none⟩) NB111_112.out _).trans (((cell_far (p := ⟨gb112, _, none⟩) NB111_112.out _).trans (hHeld.2))))⟩ (fun hHeld => ?_)
 clear hK K
 refine pure_ (i := 16) (N := some 3) (v := ?_) (a' := ?_) (flg 17 131071) rfl rfl (any_of HT_.out (by kernel_rfl)) (fun _ _ _ h => h) (Or.inl ⟨by rfl, ?_⟩) ?_ ?_
 rotate_left
 ·
  intro w'
  go_simp
  with_reducible rfl
 rotate_left
 ·
  simp only [pw]
  rfl
 refine done_ (done_of HT_.out (by kernel_rfl)) ?_
 try go_wp2
 refine bodyPost_ret (results_ct rfl _ _ gb112 124 #[.int .i64 (a0_0 / 2), .int .u64 (Go.bits .or .u64 (a0_1 / 2) (IntKind.u64.wrap ((IntKind.u64.wrap (a0_0)) * 9223372036854775808)))] (0, 0) _ rfl (by (with_reducible repeat (first | refine blk_drewN ?_ _ | refine blk_drew ?_ | refine blk_alloc ?_ _)); refine blk_put (cs := #[.int .i64 (a0_0 / 2), .int .u64 0]) ?_ 1 _ rfl; (with_reducible repeat (first | refine blk_drewN ?_ _ | refine blk_drew ?_ | refine blk_alloc ?_ _)); refine blk_put (cs := #[.int .i64 0, .int .u64 0]) ?_ 0 _ rfl; (with_reducible repeat (first | refine blk_drewN ?_ _ | refine blk_drew ?_ | refine blk_alloc ?_ _)); exact BK112.out) Tryz.underlying124 rfl (by kernel_rfl)) rfl ?_
 exact ⟨by first | rfl | (simp [errW_none, errW_some] <;> rfl) | (simp [*, errW_none, errW_some] <;> rfl), by repeat (first | (with_reducible first | exact HB.out | apply below_alloc | apply pw_below_drewN | apply below_drew1 | refine below_set ?_ GE111.out | refine below_set ?_ GE112.out) | exact HB.out)⟩
def wide_Int.f (a0_0 : Int) (a0_1 : Int) : Option (Int × Int) := (wide_Of.f (wrap64 (a0_1))).bind fun bt119 => (if (!(bt119.1 == a0_0) || (!(bt119.2 == a0_1))) = true then (some (0, 3)) else (some (wrap64 (a0_1), 0)))
set_option maxHeartbeats 8000000 in
set_option maxRecDepth 100000 in
theorem wide_Int.calls (a0_0 : Int) (a0_1 : Int) (r1 : Int) (r2 : Int) (w : World) (h : wide_Int.f a0_0 a0_1 = some (r1, r2)) :
  Calls Tryz.prog 80 #[.agg #[a0_0, .int .u64 a0_1]] w fun e w' => e = .returned (.tuple #[r1, r2]) ∧ Below w.heap.size w w' := by
 have hu124 := Tryz.underlying124
 have HB := am (Below.refl w.heap.size w)
 have H : ((wide_Of.f (wrap64 (a0_1))).bind fun bt119 => (if (!(bt119.1 == a0_0) || (!(bt119.2 == a0_1))) = true then (some (0, 3)) else (some (wrap64 (a0_1), 0)))) = some (r1, r2) := h
 clear h
 replace H := Option.bind_eq_some_iff.mp H
 obtain ⟨⟨t119, t120⟩, A20, H⟩ := H
 replace H : (if (!(t119 == a0_0) || (!(t120 == a0_1))) = true then (some (0, 3)) else (some (wrap64 (a0_1), 0))) = some (r1, r2) := H
 have A2 := am A20
 clear A20
 by_cases c3 : (!(t119 == a0_0) || (!(t120 == a0_1))) = true
 ·
  rw [if_pos c3] at H
  have c3b0 : (!(t119 == a0_0) || (!(t120 == a0_1))) = true := c3
  clear c3
  simp only [Option.some.injEq, Prod.mk.injEq] at H
  obtain ⟨rfl, rfl⟩ := H
  go_enter Tryz.func80, Tryz.ntmps80
  try go_wp2_with (first | ((with_reducible refine gate_dst (N := 1) rfl ?_); refine box_event ?hg (N := 1) ?hd (cs := #[.int .i64 a0_0, .int .u64 a0_1]) (t := 124) ?hr ?_; (case hd => rfl); (case hg => rfl); (case hr => first | (go_simp; done) | (go_simp; rfl)); intro gb118 hg w4 hbox hb; have n0_ := am (below_step (b_R) hb); have n1_ := am (hbox); have n2_ := am ((by rw [hg]; exact (below_size (b_R)) : w.heap.size ≤ gb118)); have n3_ := am ((by rw [hg]; exact (below_size (b_R)) : w.heap.size ≤ gb118)); clear HB; have HB := n0_; have BK118 := n1_; have GW118 := n2_; have GE118 := n3_; clear n0_ n1_ n2_ n3_; clear hb hbox hg))
  have n0_ := b_d BK118
  have n1_ := am (below_drew1 HB.out)
  clear BK118
  clear HB
  have BK118 := n0_
  have HB := n1_
  clear n0_ n1_
  refine s_t 6 (fun w' => w'.cell? ⟨gb118, 0, none⟩ = some (.int .i64 a0_0) ∧ w'.cell? ⟨gb118, 1, none⟩ = some (.int .u64 a0_1)) ⟨(blk_cell BK118.out 0).trans rfl, (blk_cell BK118.out 1).trans rfl⟩ (fun hHeld => ?_)
  generalize w4.drew = w5 at BK118 HB hHeld ⊢
  refine p_u 0 4 6 1 ?_
  refine t_a 1 5 6 3 hHeld ?_
  refine p_u 2 6 6 7 ?_
  refine t_a 4 8 6 23 hHeld ?_
  refine o_n 3 7 6 31 fun K hK => ?_
  refine goes_ Tryz.func79 (by kernel_rfl) rfl #[.int .i64 (wrap64 (a0_1))] (by rfl) rfl rfl (by (try simp only [List.map_toArray, List.map_cons, List.map_nil]); first | done | rfl | (simp only [List.length_drop, List.length_take]; rfl)) ?_
  with_reducible refine (wide_Of.calls (wrap64 (a0_1)) t119 t120 _ A2.out).mono ?_
  rintro e w6 ⟨rfl, hb⟩
  refine ⟨_, rfl, ?_⟩
  have n0_ := am (blk_below (g := gb118) (o := .cells #[a0_0, .int .u64 a0_1] 124 (0, 0)) (by (with_reducible repeat (first | refine blk_drewN ?_ _ | refine blk_drew ?_ | refine blk_alloc ?_ _)); exact BK118.out) hb)
  have n1_ := am (below_step (by repeat (first | (with_reducible first | exact HB.out | apply below_alloc | apply pw_below_drewN | apply below_drew1 | refine below_set ?_ GE118.out) | exact HB.out)) hb)
  clear BK118
  clear HB
  have BK118 := n0_
  have HB := n1_
  clear n0_ n1_
  (try clear hb)
  (try clear hb2)
  (try clear hk)
  (try clear hi)
  refine hK.out _ _ ⟨(blk_cell BK118.out 0).trans rfl, (blk_cell BK118.out 1).trans rfl⟩ (fun hHeld => ?_)
  clear hK K
  refine n_o 7 ?_
  refine p_u 5 9 6 63 ?_
  refine d_n ?_
  try go_wp2
  go_ret2
  exact ⟨by first | rfl | (simp [errW_none, errW_some] <;> rfl) | (simp [*, errW_none, errW_some] <;> rfl), by repeat (first | (with_reducible first | exact HB.out | apply below_alloc | apply pw_below_drewN | apply below_drew1 | refine below_set ?_ GE118.out) | exact HB.out)⟩
 rw [if_neg c3] at H
 have c3b0 : (!(t119 == a0_0) || (!(t120 == a0_1))) = false := by simpa using c3
 clear c3
 simp only [Option.some.injEq, Prod.mk.injEq] at H
 obtain ⟨rfl, rfl⟩ := H
 go_enter Tryz.func80, Tryz.ntmps80
 try go_wp2_with (first | ((with_reducible refine gate_dst (N := 1) rfl ?_); refine box_event ?hg (N := 1) ?hd (cs := #[.int .i64 a0_0, .int .u64 a0_1]) (t := 124) ?hr ?_; (case hd => rfl); (case hg => rfl); (case hr => first | (go_simp; done) | (go_simp; rfl)); intro gb118 hg w7 hbox hb; have n0_ := am (below_step (b_R) hb); have n1_ := am (hbox); have n2_ := am ((by rw [hg]; exact (below_size (b_R)) : w.heap.size ≤ gb118)); have n3_ := am ((by rw [hg]; exact (below_size (b_R)) : w.heap.size ≤ gb118)); clear HB; have HB := n0_; have BK118 := n1_; have GW118 := n2_; have GE118 := n3_; clear n0_ n1_ n2_ n3_; clear hb hbox hg))
 have n0_ := b_d BK118
 have n1_ := am (below_drew1 HB.out)
 clear BK118
 clear HB
 have BK118 := n0_
 have HB := n1_
 clear n0_ n1_
 refine s_t 6 (fun w' => w'.cell? ⟨gb118, 0, none⟩ = some (.int .i64 a0_0) ∧ w'.cell? ⟨gb118, 1, none⟩ = some (.int .u64 a0_1)) ⟨(blk_cell BK118.out 0).trans rfl, (blk_cell BK118.out 1).trans rfl⟩ (fun hHeld => ?_)
 generalize w7.drew = w8 at BK118 HB hHeld ⊢
 refine p_u 0 4 6 1 ?_
 refine t_a 1 5 6 3 hHeld ?_
 refine p_u 2 6 6 7 ?_
 refine t_a 4 8 6 23 hHeld ?_
 refine o_n 3 7 6 31 fun K hK => ?_
 refine goes_ Tryz.func79 (by kernel_rfl) rfl #[.int .i64 (wrap64 (a0_1))] (by rfl) rfl rfl (by (try simp only [List.map_toArray, List.map_cons, List.map_nil]); first | done | rfl | (simp only [List.length_drop, List.length_take]; rfl)) ?_
 with_reducible refine (wide_Of.calls (wrap64 (a0_1)) t119 t120 _ A2.out).mono ?_
 rintro e w9 ⟨rfl, hb⟩
 refine ⟨_, rfl, ?_⟩
 have n0_ := am (blk_below (g := gb118) (o := .cells #[a0_0, .int .u64 a0_1] 124 (0, 0)) (by (with_reducible repeat (first | refine blk_drewN ?_ _ | refine blk_drew ?_ | refine blk_alloc ?_ _)); exact BK118.out) hb)
 have n1_ := am (below_step (by repeat (first | (with_reducible first | exact HB.out | apply below_alloc | apply pw_below_drewN | apply below_drew1 | refine below_set ?_ GE118.out) | exact HB.out)) hb)
 clear BK118
 clear HB
 have BK118 := n0_
 have HB := n1_
 clear n0_ n1_
 (try clear hb)
 (try clear hb2)
 (try clear hk)
 (try clear hi)
 refine hK.out _ _ ⟨(blk_cell BK118.out 0).trans rfl, (blk_cell BK118.out 1).trans rfl⟩ (fun hHeld => ?_)
 clear hK K
 refine n_o 7 ?_
 refine p_u 5 9 6 63 ?_
 refine d_n ?_
 have hcz10_0 := b_l BK118 0 rfl
 have hcz10_1 := b_l BK118 1 rfl
 have hfz10_0 := b_z BK118 0
 have hfz10_1 := b_z BK118 1
 try go_wp2
 go_ret2
 exact ⟨by first | rfl | (simp [errW_none, errW_some] <;> rfl) | (simp [*, errW_none, errW_some] <;> rfl), by repeat (first | (with_reducible first | exact HB.out | apply below_alloc | apply pw_below_drewN | apply below_drew1 | refine below_set ?_ GE118.out) | exact HB.out)⟩
end Go.Proofs.YtpdahkgandaabaaGreatDoor.PTopNames
namespace Go.Proofs.YtpdahkgandaabaaGreatDoor.Al
open Go.RowKit Go.Proofs.YtpdahkgandaabaaGreatDoorW.PrintWords Go.Proofs.YtpdahkgandaabaaGreatDoorW.PrintLast Go.Proofs.YtpdahkgandaabaaGreatDoorW.PrintMore Go.Proofs.YtpdahkgandaabaaGreatDoor.PTopNames
set_option linter.unusedVariables false
set_option linter.unusedSimpArgs false
def T : List Int := [430515, 417754, 405300, 393149, 381294, 369731, 358453, 347455, 336732, 326279, 316090, 306161, 296485, 287058, 277876, 268933, 260224, 251746, 243492, 235459, 227641, 220036, 212637, 205441, 198444, 191640, 185027, 178600, 172355, 166288, 160395, 154672, 149116, 143723, 138488, 133409, 128482, 123703, 119069, 114577, 110223, 106004, 101917, 97958, 94125, 90414, 86822]
def t (i : Nat) : Int := T.getD i 0
def good (c : Int) : Bool := decide (90528 ≤ c) && decide (c ≤ 430515)
def ix (c : Int) : Nat := T.findIdx fun x => decide (x < c)
def altAt (n : Nat) (c : Int) : Int := (-562949953421312 + (n : Int) * 281474976710656) + 281474976710656 * (t n - c) / (t n - t (n + 1))
def alt (c : Int) : Int := altAt (ix c - 1) c
theorem good_iff (c : Int) : good c = true ↔ 90528 ≤ c ∧ c ≤ 430515 := by simp [good]
theorem ix_facts (c : Int) (h : good c = true) : 1 ≤ ix c ∧ ix c < 47 ∧ t (ix c) < c ∧ ∀ i, i < ix c → c ≤ t i := by
 rw [good_iff] at h
 have hlt : ix c < T.length := List.findIdx_lt_length_of_exists ⟨86822, by decide, by simp; omega⟩
 have h47 : T.length = 47 := by decide
 have hat : t (ix c) < c := by
  have := List.findIdx_getElem (w := hlt)
  unfold t
  rw [List.getD_eq_getElem?_getD, List.getElem?_eq_getElem hlt]
  exact of_decide_eq_true this
 have hbe : ∀ i, i < ix c → c ≤ t i := by
  intro i hi
  have := List.not_of_lt_findIdx hi
  unfold t
  rw [List.getD_eq_getElem?_getD, List.getElem?_eq_getElem (by omega)]
  simpa using this
 refine ⟨?_, by omega, hat, hbe⟩
 rcases Nat.eq_zero_or_pos (ix c) with h0 | h0
 ·
  rw [h0] at hat
  have : t 0 = 430515 := by decide
  omega
 exact h0
theorem t_range : ∀ i : Fin 47, 86822 ≤ t i ∧ t i ≤ 430515 := by decide +kernel
theorem t_step : ∀ i : Fin 46, 1 ≤ t i - t (i + 1) ∧ t i - t (i + 1) ≤ 12761 := by decide +kernel
def Tab (w : World) : Prop := ∀ i : Nat, i < 47 → w.cell? ⟨0, i, none⟩ = some (.int .i64 (t i))
theorem Tab.below {w w' : World} (h : Tab w) (hb : Below w.heap.size w w') : Tab w' := fun i hi => (hb.cell (World.block_lt_of_cell? w _ (h i hi))).trans (h i hi)
theorem Tab.pos {w : World} (h : Tab w) : 0 < w.heap.size := World.block_lt_of_cell? w _ (h 0 (by omega))
theorem mk_func : ∀ (fn : Fn) (first cap : Array Value) (w : World), (Instr.makeFunc fn first cap).run Tryz.prog w = .ok (.func fn first cap) w := fun _ _ _ _ => rfl
set_option maxRecDepth 100000 in
set_option maxHeartbeats 4000000 in
theorem below_any (w : World) (g : Nat) (a c : Int) (hc : w.cell? ⟨g, 0, none⟩ = some (.int .i64 c)) :
  Calls Tryz.prog 93 #[a, .pointer (some ⟨g, 0, none⟩)] w fun e w' => e = .returned (.bool (decide (a < c))) ∧ w' = w := by
 go_enter Tryz.func93, Tryz.ntmps93
 go_wp2
 go_ret
 exact ⟨rfl, rfl⟩
set_option maxRecDepth 100000 in
set_option maxHeartbeats 4000000 in
theorem index_any (w : World) (g : Nat) (c : Int) (hT : Tab w) (hc : w.cell? ⟨g, 0, none⟩ = some (.int .i64 c)) (n : Nat) (hn : n < 47) (hltn : t n < c) (hge : ∀ i, i < n → c ≤ t i) :
  Calls Tryz.prog 92 #[.slice (some ⟨0, 0, none⟩) 47 47, .func (.func 93) #[] #[.pointer (some ⟨g, 0, none⟩)]] w fun e w' => e = .returned (.int .i64 n) ∧ Below w.heap.size w w' := by
 have HT := am hT
 clear hT
 go_enter Tryz.func92, Tryz.ntmps92
 go_wp2_with fail
 have HB := am (Below.refl w.heap.size w)
 have HC := am hc
 clear hc
 go_loopw [8] (fun v8 wr => ∃ k : Nat, k ≤ n ∧ v8 = .int .i64 k ∧ Aside0 (Below w.heap.size w wr)) (fun v8 _ => n + 1 - (intOf v8).toNat)
 case atStart => exact ⟨0, Nat.zero_le _, rfl, HB⟩
 case round =>
  clear HB
  obtain ⟨k, hk, rfl, HB⟩ := hrel
  have p0 : (0 : Int) ≤ (k : Int) := Int.natCast_nonneg _
  have q0 : (k : Int) < 47 := by omega
  have hx := ((HT.out.below HB.out) k (by omega))
  have hy := (HB.out.cell (World.block_lt_of_cell? w _ HC.out)).trans HC.out
  by_cases hlt : k < n
  ·
   have hcmp : decide (t k < c) = false := decide_eq_false (Int.not_lt.2 (hge k hlt))
   go_wp2_with fail
   refine (below_any wr g _ c hy).mono ?_
   rintro e w1 ⟨rfl, rfl⟩
   rw [hcmp]
   go_wp2_with fail
   go_roundw
   case rel => exact ⟨k + 1, by omega, by go_num, HB⟩
   case measure => simp [intOf]; omega
  have hk2 : k = n := by omega
  have hcmp : decide (t k < c) = true := decide_eq_true (by rw [hk2]; exact hltn)
  subst hk2
  go_wp2_with fail
  refine (below_any wr g _ c hy).mono ?_
  rintro e w1 ⟨rfl, rfl⟩
  rw [hcmp]
  go_wp2_with fail
  go_ret
  exact ⟨rfl, HB.out⟩
set_option maxRecDepth 100000 in
set_option maxHeartbeats 4000000 in
theorem good_any (w : World) (c : Int) : Calls Tryz.prog 91 #[c] w fun e w' => e = .returned (.bool (good c)) ∧ Below w.heap.size w w' := by
 unfold good
 by_cases h : 90528 ≤ c
 ·
  have h1 : decide (90528 ≤ c) = true := decide_eq_true h
  go_enter Tryz.func91, Tryz.ntmps91
  go_wp2
  go_ret
  exact ⟨by simp [h], by repeat (first | exact Below.refl _ _ | apply below_drew)⟩
 have h1 : decide (90528 ≤ c) = false := decide_eq_false h
 go_enter Tryz.func91, Tryz.ntmps91
 go_wp2
 go_ret
 exact ⟨by simp [h], by repeat (first | exact Below.refl _ _ | apply below_drew)⟩
theorem w64 {x : Int} (h0 : -9223372036854775808 ≤ x) (h1 : x ≤ 9223372036854775807) : wrap64 x = x := by
 unfold wrap64
 omega
theorem wz (z q : Int) (h0 : 0 ≤ z) (h1 : z < 46) (q0 : 0 ≤ q) (q1 : q < 281474976710656) :
  wrap64 (z * 281474976710656) = z * 281474976710656 ∧ wrap64 (-562949953421312 + z * 281474976710656) = -562949953421312 + z * 281474976710656 ∧ wrap64 (-562949953421312 + z * 281474976710656 + q) = -562949953421312 + z * 281474976710656 + q :=
 ⟨w64 (by omega) (by omega), w64 (by omega) (by omega), w64 (by omega) (by omega)⟩
theorem wd (a b c : Int) (h1 : b < c) (h2 : c ≤ a) (h3 : a - b ≤ 12761) : wrap64 (a - c) = a - c ∧ wrap64 (281474976710656 * (a - c)) = 281474976710656 * (a - c) ∧ wrap64 (a - b) = a - b :=
 ⟨w64 (by omega) (by omega), w64 (by omega) (by omega), w64 (by omega) (by omega)⟩
theorem qd (a b c : Int) (h1 : b < c) (h2 : c ≤ a) : 0 ≤ 281474976710656 * (a - c) / (a - b) ∧ 281474976710656 * (a - c) / (a - b) < 281474976710656 ∧ Int.tdiv (281474976710656 * (a - c)) (a - b) = 281474976710656 * (a - c) / (a - b) :=
 ⟨Int.ediv_nonneg (by omega) (by omega), Int.ediv_lt_of_lt_mul (by omega) (Int.mul_lt_mul_of_pos_left (by omega) (by omega)), Int.tdiv_eq_ediv_of_nonneg (by omega)⟩
set_option maxRecDepth 100000 in
set_option maxHeartbeats 4000000 in
theorem alt_any (w : World) (c : Int) (hT : Tab w) :
  Calls Tryz.prog 65 #[c] w fun e w' => e = .returned (.tuple #[.int .i64 (if good c then alt c else 0), .int .i64 (if good c then 0 else 2)]) ∧ Below w.heap.size w w' := by
 have HT := am hT
 have hu51 := Tryz.underlying137
 cases hg : good c with
 | false =>
  go_enter Tryz.func65, Tryz.ntmps65
  go_wp2_with fail
  refine (good_any _ c).mono ?_
  rintro e w1 ⟨rfl, hb⟩
  rw [hg]
  go_wp2_with fail
  refine bodyPost_ret (results_tmp2 rfl _ _ _) rfl ?_
  exact ⟨rfl, below_step (below_alloc (Below.refl _ _) _) hb⟩
 | true =>
  obtain ⟨i1, i2, i3, i4⟩ := ix_facts c hg
  obtain ⟨n, hn⟩ : ∃ n, ix c = n + 1 := ⟨ix c - 1, by omega⟩
  have hal : alt c = altAt n c := by unfold alt; rw [hn, Nat.add_sub_cancel]
  rw [hal]
  rw [hn] at i2 i3 i4
  clear hn hal i1
  have I3 := am i3
  have I4 := am i4
  clear i3 i4
  go_enter Tryz.func65, Tryz.ntmps65
  go_wp2_with fail
  have HX := am (blk_new w (.cells #[c] 2))
  have HB := am (below_alloc (Below.refl w.heap.size w) (.cells #[c] 2))
  obtain ⟨g, hgg⟩ : ∃ g, g = w.heap.size := ⟨_, rfl⟩
  rw [← hgg] at HX ⊢
  clear hgg
  generalize w.alloc (.cells #[c] 2) = w1 at HX HB ⊢
  refine (good_any w1 c).mono ?_
  rintro e w2 ⟨rfl, hb⟩
  rw [hg]
  replace HX := b_b HX hb
  replace HB := b_s HB hb
  clear hb hg
  have hmk := mk_func
  have hx0 := blk_cell HX.out 0
  go_wp2_with fail
  refine (index_any w2 g c (HT.out.below HB.out) hx0 (n + 1) i2 I3.out I4.out).mono ?_
  rintro e w3 ⟨rfl, hb⟩
  replace HX := b_b HX hb
  replace HB := b_s HB hb
  clear hb hmk hx0
  have hx0 := blk_cell HX.out 0
  have tn := (HT.out.below HB.out) n (by omega)
  have tm := (HT.out.below HB.out) (n + 1) i2
  have r1 := I4.out n (by omega)
  have r2 := I3.out
  have r3 := t_step ⟨n, by omega⟩
  have r4 := t_range ⟨n, by omega⟩
  have r5 := t_range ⟨n + 1, by omega⟩
  simp only at r3 r4 r5
  obtain ⟨a, ha⟩ : ∃ a, a = t n := ⟨_, rfl⟩
  obtain ⟨b, hb⟩ := e_x (t (n + 1))
  rw [← ha] at tn r1 r3 r4
  rw [← hb] at tm r2 r3 r5
  have HA := am ha
  have HBB := am hb
  clear ha hb
  obtain ⟨z, hz⟩ : ∃ z : Int, z = (n : Int) := ⟨_, rfl⟩
  have n0 : (0 : Int) ≤ z := by omega
  have n1 : z < 46 := by omega
  have n2 : z < 47 := by omega
  have n3 : z + 1 < 47 := by omega
  have n4 : (0 : Int) ≤ z + 1 := by omega
  have n6 : z.toNat = n := by omega
  have n5 : (z + 1).toNat = n + 1 := by omega
  have v1 : wrap64 z = z := w64 (by omega) (by omega)
  have v2 : wrap64 (z + 1) = z + 1 := w64 (by omega) (by omega)
  obtain ⟨v3, v4, v5⟩ := wd a b c r2 r1 r3.2
  have z0 : ¬ (a - b = 0) := by clear v3 v4 v5; omega
  obtain ⟨q0, q1, v6⟩ := qd a b c r2 r1
  obtain ⟨q, hq⟩ : ∃ q, q = 281474976710656 * (a - c) / (a - b) := ⟨_, rfl⟩
  rw [← hq] at q0 q1 v6
  have HQ := am hq
  clear hq r1 r2 r3 r4 r5
  have v7 : wrap64 q = q := w64 (by clear v3 v4 v5 v6; omega) (by clear v3 v4 v5 v6; omega)
  obtain ⟨v8, v9, v10⟩ := wz z q n0 n1 q0 q1
  rw [show ((n + 1 : Nat) : Int) = (n : Int) + 1 from rfl, ← hz]
  have v11 : z + 1 - 1 = z := Int.add_sub_cancel _ _
  have HZ := am hz
  clear hz
  go_upto_region 4 with fail
  go_quiet (fail)
  go_wp2_with fail
  refine bodyPost_ret (results_tmp2 rfl _ _ _) rfl ?_
  have hfin : altAt n c = -562949953421312 + z * 281474976710656 + q := by unfold altAt; rw [← HA.out, ← HBB.out, ← HQ.out, ← HZ.out]
  rw [hfin]
  refine ⟨rfl, ?_⟩
  repeat (first | exact HB.out | apply pw_below_drewN | apply below_drew)
end Go.Proofs.YtpdahkgandaabaaGreatDoor.Al
