/- The check of a configuration (layer 13): the first rule that isn't kept. -/
import Derived.Test.YtpdahkgandaabaaGreatDoorConf
import Derived.Deep.WholeRow
import Derived.Deep.MidRow
namespace Go.Proofs.YtpdahkgandaabaaGreatDoor.Ch
open Go.RowKit Go.Proofs.YtpdahkgandaabaaGreatDoorW.PrintWords Go.Proofs.YtpdahkgandaabaaGreatDoorW.PrintLast Go.Proofs.YtpdahkgandaabaaGreatDoorW.PrintMore Go.Proofs.YtpdahkgandaabaaGreatDoor.PTopNames
set_option linter.unusedVariables false
set_option linter.unusedSimpArgs false

def R : Array Value := #[.int .i64 1, .func (.func 39) #[] #[], .int .i64 2, .func (.func 43) #[] #[], .int .i64 3, .func (.func 45) #[] #[], .int .i64 4, .func (.func 46) #[] #[], .int .i64 5, .func (.func 47) #[] #[], .int .i64 6, .func (.func 50) #[] #[], .int .i64 7, .func (.func 52) #[] #[], .int .i64 8, .func (.func 54) #[] #[], .int .i64 9, .func (.func 55) #[] #[], .int .i64 10, .func (.func 57) #[] #[], .int .i64 11, .func (.func 58) #[] #[], .int .i64 12, .func (.func 59) #[] #[], .int .i64 13, .func (.func 60) #[] #[], .int .i64 14, .func (.func 61) #[] #[]]
def Z : Array Value := #[.int .i64 0, .nilFunc, .int .i64 0, .nilFunc, .int .i64 0, .nilFunc, .int .i64 0, .nilFunc, .int .i64 0, .nilFunc, .int .i64 0, .nilFunc, .int .i64 0, .nilFunc, .int .i64 0, .nilFunc, .int .i64 0, .nilFunc, .int .i64 0, .nilFunc, .int .i64 0, .nilFunc, .int .i64 0, .nilFunc, .int .i64 0, .nilFunc, .int .i64 0, .nilFunc]
set_option maxRecDepth 100000 in
set_option maxHeartbeats 4000000 in
theorem rules_any (w : World) : Calls Tryz.prog 19 #[] w fun e w' => e = .returned (.agg R) ∧ Below w.heap.size w w' := by
  have HB := Aside0.mk (below_alloc (Below.refl w.heap.size w) (.cells R 70))
  go_enter Tryz.func19, Tryz.ntmps19
  go_upto_region 1 with fail
  iterate 47 go_step
  refine wp_store_row 70 (.tmp 0) (.tmp 15) rfl w.heap.size R rfl rfl 70 Z (heap_alloc_last w _) (by kernel_rfl) (by kernel_rfl) (by kernel_rfl) ?_
  rw [show (w.alloc (.cells #[.int .i64 0, .nilFunc, .int .i64 0, .nilFunc, .int .i64 0, .nilFunc, .int .i64 0, .nilFunc, .int .i64 0, .nilFunc, .int .i64 0, .nilFunc, .int .i64 0, .nilFunc, .int .i64 0, .nilFunc, .int .i64 0, .nilFunc, .int .i64 0, .nilFunc, .int .i64 0, .nilFunc, .int .i64 0, .nilFunc, .int .i64 0, .nilFunc, .int .i64 0, .nilFunc] 70)).setRow w.heap.size R = w.alloc (.cells R 70) from World.setRow_alloc_new w _ _ _]
  go_wp2_with fail
  refine bodyPost_ret (v := .agg R) ?_ rfl ⟨rfl, HB.out⟩
  exact results_cell_row rfl _ _ w.heap.size 70 R (0, 0) _ rfl (heap_alloc_last w _) Tryz.underlying70 rfl (by kernel_rfl)
/-- Which rule each is. -/
def ruleB (c : Cf) : Nat → Bool
  | 0 => within c.q0 0 1125899906842624 && (within c.q1 0 1125899906842624 && within c.q2 0 1125899906842624)
  | 1 => within c.l0 c.q0 1125899906842624 && (within c.l1 c.q1 1125899906842624 && within c.l2 c.q2 1125899906842624)
  | 2 => within c.r 274877906944 1125899906842624
  | 3 => within c.rg c.r 1125899906842624
  | 4 => (m1 c.f0 c.c0 && (m1 c.f1 c.c1 && m1 c.f2 c.c2)) && (decide (c.c0 ≤ 72057594037927936) && (decide (c.c1 ≤ 72057594037927936) && decide (c.c2 ≤ 72057594037927936)))
  | 5 => within c.s0 c.f0 c.c0 && (within c.s1 c.f1 c.c1 && within c.s2 c.f2 c.c2)
  | 6 => (within c.b0 0 72057594037927936 && (within c.b1 0 72057594037927936 && within c.b2 0 72057594037927936)) && decide (18014398509481984 ≤ c.b0)
  | 7 => within c.g 1 1000
  | 8 => (within c.t0 (-4398046511104) 4398046511104 && (within c.t1 (-4398046511104) 4398046511104 && within c.t2 (-4398046511104) 4398046511104)) && within c.t0 0 1099511627776
  | 9 => within c.sc 1 1099511627776
  | 10 => (within c.clip 1 131072 && decide (wrap64 (-c.clip) < c.rest)) && decide (c.rest < c.clip)
  | 11 => within c.hold 0 1000
  | 12 => within c.coast 1 c.out && decide (c.out ≤ 100000)
  | 13 => within c.band 0 400000
  | _ => true
/-- The first of the rules from k on that isn't kept; n rules are left. -/
def firstOf (c : Cf) : Nat → Nat → Int
  | 0, _ => 0
  | n + 1, k => if ruleB c k then firstOf c n (k + 1) else (k : Int) + 1
def checkR (c : Cf) : Int := firstOf c 14 0
@[local go_sem] theorem run_store_func {P : Program} {w : World} {a : Addr} {m : Mode} (f : Fn) (x y : Array Value) : (store a (.func f x y) m).run P w = stored P w a (.func f x y) m := run_store P w a _ m rfl
theorem first_at (c : Cf) (m : Nat) (hm : ruleB c m = false) : ∀ n k, k ≤ m → m < k + n → (∀ j, k ≤ j → j < m → ruleB c j = true) → firstOf c n k = (m : Int) + 1
  | 0, k, h1, h2, _ => by omega
  | n + 1, k, h1, h2, h => by
    unfold firstOf
    rcases Nat.eq_or_lt_of_le h1 with e | hlt
    · subst e
      rw [hm]
      rfl
    · rw [h k (Nat.le_refl _) hlt, if_pos rfl]
      exact first_at c m hm n (k + 1) hlt (by omega) (fun j hj => h j (by omega))
theorem first_none (c : Cf) : ∀ n k, (∀ j, k ≤ j → j < k + n → ruleB c j = true) → firstOf c n k = 0
  | 0, _, _ => rfl
  | n + 1, k, h => by
    unfold firstOf
    rw [h k (Nat.le_refl _) (by omega), if_pos rfl]
    exact first_none c n (k + 1) (fun j h1 h2 => h j (by omega) (by omega))
theorem upto_next {c : Cf} {k : Nat} (h : ∀ j, j < k → ruleB c j = true) (hk : ruleB c k = true) : ∀ j, j < k + 1 → ruleB c j = true := fun j hj => by
  rcases Nat.eq_or_lt_of_le (Nat.le_of_lt_succ hj) with e | hlt
  · rw [e]
    exact hk
  · exact h j hlt
theorem wp_load_whole {P : Program} {op : Oper} {a : Act} {w : World} {K : Act → World → Prop} {Q : Exit → Act → World → Prop} (ty : TypeId) (x : Operand) (ho : op.op = .load ty x)
    (b : Nat) (t : TypeId) (cs : Array Value) (fr : Nat × Nat) (hx : a.eval x = .pointer (some ⟨b, 0, none⟩)) (hg : w.heap[b]? = some (.cells cs t fr)) (d : TypeDesc)
    (hu : P.underlying ty = some d) (hd : (match d with | .struct _ | .array _ _ => true | _ => false) = true) (hi : (P.info? ty).map (·.size) = some cs.size)
    (h : K (a.put op.dst (.agg cs)) w) : op.wp P a w K Q := by
  unfold Oper.wp execOp
  simp only [ho, hx, Instr.loadAt, Instr.sureAddr, Sem.run_bind, Sem.run_pure, Result.andThen_ok, run_loadVar_row w b t ty cs fr d hg hu hd hi]
  exact h
set_option maxRecDepth 100000 in
set_option maxHeartbeats 40000000 in
theorem check_any (w : World) (c : Cf) : Calls Tryz.prog 7 #[.agg c.v] w fun e w' => e = .returned (.int .i64 (checkR c)) ∧ Below w.heap.size w w' := by
  go_enter Tryz.func7, Tryz.ntmps7
  go_upto_region 1 with fail
  have HX := Aside0.mk (blk_new w (.cells c.v 28))
  have HB := Aside0.mk (below_alloc (Below.refl w.heap.size w) (.cells c.v 28))
  generalize w.alloc (.cells c.v 28) = w1 at HX HB ⊢
  obtain ⟨b, hb⟩ : ∃ b, b = w.heap.size := ⟨_, rfl⟩
  rw [← hb] at HX ⊢
  clear hb
  go_wp2_with fail
  refine (rules_any w1).mono ?_
  rintro e w2 ⟨rfl, hb⟩
  replace HX := Aside0.mk (blk_below HX.out hb)
  replace HB := Aside0.mk (below_step HB.out hb)
  clear hb
  have HR := Aside0.mk (Below.refl w2.heap.size w2)
  go_wp2_with fail
  go_loopw [6] (fun v6 wr => ∃ k : Nat, k ≤ 14 ∧ v6 = .int .i64 k ∧ Aside0 (Below w2.heap.size w2 wr) ∧ Aside0 (∀ j, j < k → ruleB c j = true)) (fun v6 _ => 15 - (intOf v6).toNat)
  case atStart => exact ⟨0, by omega, rfl, HR, ⟨fun j hj => by omega⟩⟩
  case round =>
    clear HR
    obtain ⟨k, hk, rfl, HR, HK⟩ := hrel
    have hk4 : k = 0 ∨ k = 1 ∨ k = 2 ∨ k = 3 ∨ k = 4 ∨ k = 5 ∨ k = 6 ∨ k = 7 ∨ k = 8 ∨ k = 9 ∨ k = 10 ∨ k = 11 ∨ k = 12 ∨ k = 13 ∨ k = 14 := by omega
    clear hk
    rcases hk4 with rfl | rfl | rfl | rfl | rfl | rfl | rfl | rfl | rfl | rfl | rfl | rfl | rfl | rfl | rfl
    · have ik : ∀ w, (Instr.index 70 (.agg R) (.int .i64 0)).run Tryz.prog w = .ok (.agg #[.int .i64 1, .func (.func 39) #[] #[]]) w := fun _ => by kernel_rfl
      have hcast : ((0 : Nat) : Int) = 0 := rfl
      go_upto_region 4 with fail
      have HA := Aside0.mk (blk_new wr (.cells #[.int .i64 1, .func (.func 39) #[] #[]] 69))
      have HQ := Aside0.mk (blk_alloc (blk_below HX.out HR.out) (.cells #[.int .i64 1, .func (.func 39) #[] #[]] 69))
      replace HR := Aside0.mk (below_alloc HR.out (.cells #[.int .i64 1, .func (.func 39) #[] #[]] 69))
      generalize wr.alloc (.cells #[.int .i64 1, .func (.func 39) #[] #[]] 69) = wq at HA HQ HR ⊢
      generalize wr.heap.size = a at HA ⊢
      have y1 : wq.cell? ⟨a, 1, none⟩ = some (.func (.func 39) #[] #[]) := (blk_cell HA.out 1).trans rfl
      iterate 8 go_step
      refine wp_load_whole 28 (.tmp 1) rfl b 28 c.v (0, 0) rfl HQ.out _ Tryz.underlying28 rfl (by kernel_rfl) ?_
      clear y1
      go_wp2_with fail
      refine (show Calls Tryz.prog 39 #[.agg c.v] wq fun e w' => e = .returned (.bool (ruleB c 0)) ∧ Below wq.heap.size wq w' from rule39 wq c).mono ?_
      rintro e w3 ⟨rfl, hb⟩
      replace HR := Aside0.mk (below_step HR.out hb)
      replace HA := Aside0.mk (blk_below HA.out hb)
      clear hb HQ
      obtain ⟨q, HV⟩ : ∃ q, Aside0 (ruleB c 0 = q) := ⟨_, ⟨rfl⟩⟩
      rw [HV.out]
      cases q with
      | true =>
        go_wp2_with fail
        go_roundw
        case rel => exact ⟨1, by decide, rfl, HR, ⟨upto_next HK.out HV.out⟩⟩
        case measure => decide
      | false =>
        have y0 : w3.cell? ⟨a, 0, none⟩ = some (.int .i64 1) := (blk_cell HA.out 0).trans rfl
        go_wp2_with fail
        go_ret
        exact ⟨congrArg (fun z => Ending.returned (.int .i64 z)) (first_at c 0 HV.out 14 0 (by decide) (by decide) (fun j _ hj => HK.out j hj)).symm, below_step HB.out HR.out⟩
    · have ik : ∀ w, (Instr.index 70 (.agg R) (.int .i64 1)).run Tryz.prog w = .ok (.agg #[.int .i64 2, .func (.func 43) #[] #[]]) w := fun _ => by kernel_rfl
      have hcast : ((1 : Nat) : Int) = 1 := rfl
      go_upto_region 4 with fail
      have HA := Aside0.mk (blk_new wr (.cells #[.int .i64 2, .func (.func 43) #[] #[]] 69))
      have HQ := Aside0.mk (blk_alloc (blk_below HX.out HR.out) (.cells #[.int .i64 2, .func (.func 43) #[] #[]] 69))
      replace HR := Aside0.mk (below_alloc HR.out (.cells #[.int .i64 2, .func (.func 43) #[] #[]] 69))
      generalize wr.alloc (.cells #[.int .i64 2, .func (.func 43) #[] #[]] 69) = wq at HA HQ HR ⊢
      generalize wr.heap.size = a at HA ⊢
      have y1 : wq.cell? ⟨a, 1, none⟩ = some (.func (.func 43) #[] #[]) := (blk_cell HA.out 1).trans rfl
      iterate 8 go_step
      refine wp_load_whole 28 (.tmp 1) rfl b 28 c.v (0, 0) rfl HQ.out _ Tryz.underlying28 rfl (by kernel_rfl) ?_
      clear y1
      go_wp2_with fail
      refine (show Calls Tryz.prog 43 #[.agg c.v] wq fun e w' => e = .returned (.bool (ruleB c 1)) ∧ Below wq.heap.size wq w' from rule43 wq c).mono ?_
      rintro e w3 ⟨rfl, hb⟩
      replace HR := Aside0.mk (below_step HR.out hb)
      replace HA := Aside0.mk (blk_below HA.out hb)
      clear hb HQ
      obtain ⟨q, HV⟩ : ∃ q, Aside0 (ruleB c 1 = q) := ⟨_, ⟨rfl⟩⟩
      rw [HV.out]
      cases q with
      | true =>
        go_wp2_with fail
        go_roundw
        case rel => exact ⟨2, by decide, rfl, HR, ⟨upto_next HK.out HV.out⟩⟩
        case measure => decide
      | false =>
        have y0 : w3.cell? ⟨a, 0, none⟩ = some (.int .i64 2) := (blk_cell HA.out 0).trans rfl
        go_wp2_with fail
        go_ret
        exact ⟨congrArg (fun z => Ending.returned (.int .i64 z)) (first_at c 1 HV.out 14 0 (by decide) (by decide) (fun j _ hj => HK.out j hj)).symm, below_step HB.out HR.out⟩
    · have ik : ∀ w, (Instr.index 70 (.agg R) (.int .i64 2)).run Tryz.prog w = .ok (.agg #[.int .i64 3, .func (.func 45) #[] #[]]) w := fun _ => by kernel_rfl
      have hcast : ((2 : Nat) : Int) = 2 := rfl
      go_upto_region 4 with fail
      have HA := Aside0.mk (blk_new wr (.cells #[.int .i64 3, .func (.func 45) #[] #[]] 69))
      have HQ := Aside0.mk (blk_alloc (blk_below HX.out HR.out) (.cells #[.int .i64 3, .func (.func 45) #[] #[]] 69))
      replace HR := Aside0.mk (below_alloc HR.out (.cells #[.int .i64 3, .func (.func 45) #[] #[]] 69))
      generalize wr.alloc (.cells #[.int .i64 3, .func (.func 45) #[] #[]] 69) = wq at HA HQ HR ⊢
      generalize wr.heap.size = a at HA ⊢
      have y1 : wq.cell? ⟨a, 1, none⟩ = some (.func (.func 45) #[] #[]) := (blk_cell HA.out 1).trans rfl
      iterate 8 go_step
      refine wp_load_whole 28 (.tmp 1) rfl b 28 c.v (0, 0) rfl HQ.out _ Tryz.underlying28 rfl (by kernel_rfl) ?_
      clear y1
      go_wp2_with fail
      refine (show Calls Tryz.prog 45 #[.agg c.v] wq fun e w' => e = .returned (.bool (ruleB c 2)) ∧ Below wq.heap.size wq w' from rule45 wq c).mono ?_
      rintro e w3 ⟨rfl, hb⟩
      replace HR := Aside0.mk (below_step HR.out hb)
      replace HA := Aside0.mk (blk_below HA.out hb)
      clear hb HQ
      obtain ⟨q, HV⟩ : ∃ q, Aside0 (ruleB c 2 = q) := ⟨_, ⟨rfl⟩⟩
      rw [HV.out]
      cases q with
      | true =>
        go_wp2_with fail
        go_roundw
        case rel => exact ⟨3, by decide, rfl, HR, ⟨upto_next HK.out HV.out⟩⟩
        case measure => decide
      | false =>
        have y0 : w3.cell? ⟨a, 0, none⟩ = some (.int .i64 3) := (blk_cell HA.out 0).trans rfl
        go_wp2_with fail
        go_ret
        exact ⟨congrArg (fun z => Ending.returned (.int .i64 z)) (first_at c 2 HV.out 14 0 (by decide) (by decide) (fun j _ hj => HK.out j hj)).symm, below_step HB.out HR.out⟩
    · have ik : ∀ w, (Instr.index 70 (.agg R) (.int .i64 3)).run Tryz.prog w = .ok (.agg #[.int .i64 4, .func (.func 46) #[] #[]]) w := fun _ => by kernel_rfl
      have hcast : ((3 : Nat) : Int) = 3 := rfl
      go_upto_region 4 with fail
      have HA := Aside0.mk (blk_new wr (.cells #[.int .i64 4, .func (.func 46) #[] #[]] 69))
      have HQ := Aside0.mk (blk_alloc (blk_below HX.out HR.out) (.cells #[.int .i64 4, .func (.func 46) #[] #[]] 69))
      replace HR := Aside0.mk (below_alloc HR.out (.cells #[.int .i64 4, .func (.func 46) #[] #[]] 69))
      generalize wr.alloc (.cells #[.int .i64 4, .func (.func 46) #[] #[]] 69) = wq at HA HQ HR ⊢
      generalize wr.heap.size = a at HA ⊢
      have y1 : wq.cell? ⟨a, 1, none⟩ = some (.func (.func 46) #[] #[]) := (blk_cell HA.out 1).trans rfl
      iterate 8 go_step
      refine wp_load_whole 28 (.tmp 1) rfl b 28 c.v (0, 0) rfl HQ.out _ Tryz.underlying28 rfl (by kernel_rfl) ?_
      clear y1
      go_wp2_with fail
      refine (show Calls Tryz.prog 46 #[.agg c.v] wq fun e w' => e = .returned (.bool (ruleB c 3)) ∧ Below wq.heap.size wq w' from rule46 wq c).mono ?_
      rintro e w3 ⟨rfl, hb⟩
      replace HR := Aside0.mk (below_step HR.out hb)
      replace HA := Aside0.mk (blk_below HA.out hb)
      clear hb HQ
      obtain ⟨q, HV⟩ : ∃ q, Aside0 (ruleB c 3 = q) := ⟨_, ⟨rfl⟩⟩
      rw [HV.out]
      cases q with
      | true =>
        go_wp2_with fail
        go_roundw
        case rel => exact ⟨4, by decide, rfl, HR, ⟨upto_next HK.out HV.out⟩⟩
        case measure => decide
      | false =>
        have y0 : w3.cell? ⟨a, 0, none⟩ = some (.int .i64 4) := (blk_cell HA.out 0).trans rfl
        go_wp2_with fail
        go_ret
        exact ⟨congrArg (fun z => Ending.returned (.int .i64 z)) (first_at c 3 HV.out 14 0 (by decide) (by decide) (fun j _ hj => HK.out j hj)).symm, below_step HB.out HR.out⟩
    · have ik : ∀ w, (Instr.index 70 (.agg R) (.int .i64 4)).run Tryz.prog w = .ok (.agg #[.int .i64 5, .func (.func 47) #[] #[]]) w := fun _ => by kernel_rfl
      have hcast : ((4 : Nat) : Int) = 4 := rfl
      go_upto_region 4 with fail
      have HA := Aside0.mk (blk_new wr (.cells #[.int .i64 5, .func (.func 47) #[] #[]] 69))
      have HQ := Aside0.mk (blk_alloc (blk_below HX.out HR.out) (.cells #[.int .i64 5, .func (.func 47) #[] #[]] 69))
      replace HR := Aside0.mk (below_alloc HR.out (.cells #[.int .i64 5, .func (.func 47) #[] #[]] 69))
      generalize wr.alloc (.cells #[.int .i64 5, .func (.func 47) #[] #[]] 69) = wq at HA HQ HR ⊢
      generalize wr.heap.size = a at HA ⊢
      have y1 : wq.cell? ⟨a, 1, none⟩ = some (.func (.func 47) #[] #[]) := (blk_cell HA.out 1).trans rfl
      iterate 8 go_step
      refine wp_load_whole 28 (.tmp 1) rfl b 28 c.v (0, 0) rfl HQ.out _ Tryz.underlying28 rfl (by kernel_rfl) ?_
      clear y1
      go_wp2_with fail
      refine (show Calls Tryz.prog 47 #[.agg c.v] wq fun e w' => e = .returned (.bool (ruleB c 4)) ∧ Below wq.heap.size wq w' from rule47 wq c).mono ?_
      rintro e w3 ⟨rfl, hb⟩
      replace HR := Aside0.mk (below_step HR.out hb)
      replace HA := Aside0.mk (blk_below HA.out hb)
      clear hb HQ
      obtain ⟨q, HV⟩ : ∃ q, Aside0 (ruleB c 4 = q) := ⟨_, ⟨rfl⟩⟩
      rw [HV.out]
      cases q with
      | true =>
        go_wp2_with fail
        go_roundw
        case rel => exact ⟨5, by decide, rfl, HR, ⟨upto_next HK.out HV.out⟩⟩
        case measure => decide
      | false =>
        have y0 : w3.cell? ⟨a, 0, none⟩ = some (.int .i64 5) := (blk_cell HA.out 0).trans rfl
        go_wp2_with fail
        go_ret
        exact ⟨congrArg (fun z => Ending.returned (.int .i64 z)) (first_at c 4 HV.out 14 0 (by decide) (by decide) (fun j _ hj => HK.out j hj)).symm, below_step HB.out HR.out⟩
    · have ik : ∀ w, (Instr.index 70 (.agg R) (.int .i64 5)).run Tryz.prog w = .ok (.agg #[.int .i64 6, .func (.func 50) #[] #[]]) w := fun _ => by kernel_rfl
      have hcast : ((5 : Nat) : Int) = 5 := rfl
      go_upto_region 4 with fail
      have HA := Aside0.mk (blk_new wr (.cells #[.int .i64 6, .func (.func 50) #[] #[]] 69))
      have HQ := Aside0.mk (blk_alloc (blk_below HX.out HR.out) (.cells #[.int .i64 6, .func (.func 50) #[] #[]] 69))
      replace HR := Aside0.mk (below_alloc HR.out (.cells #[.int .i64 6, .func (.func 50) #[] #[]] 69))
      generalize wr.alloc (.cells #[.int .i64 6, .func (.func 50) #[] #[]] 69) = wq at HA HQ HR ⊢
      generalize wr.heap.size = a at HA ⊢
      have y1 : wq.cell? ⟨a, 1, none⟩ = some (.func (.func 50) #[] #[]) := (blk_cell HA.out 1).trans rfl
      iterate 8 go_step
      refine wp_load_whole 28 (.tmp 1) rfl b 28 c.v (0, 0) rfl HQ.out _ Tryz.underlying28 rfl (by kernel_rfl) ?_
      clear y1
      go_wp2_with fail
      refine (show Calls Tryz.prog 50 #[.agg c.v] wq fun e w' => e = .returned (.bool (ruleB c 5)) ∧ Below wq.heap.size wq w' from rule50 wq c).mono ?_
      rintro e w3 ⟨rfl, hb⟩
      replace HR := Aside0.mk (below_step HR.out hb)
      replace HA := Aside0.mk (blk_below HA.out hb)
      clear hb HQ
      obtain ⟨q, HV⟩ : ∃ q, Aside0 (ruleB c 5 = q) := ⟨_, ⟨rfl⟩⟩
      rw [HV.out]
      cases q with
      | true =>
        go_wp2_with fail
        go_roundw
        case rel => exact ⟨6, by decide, rfl, HR, ⟨upto_next HK.out HV.out⟩⟩
        case measure => decide
      | false =>
        have y0 : w3.cell? ⟨a, 0, none⟩ = some (.int .i64 6) := (blk_cell HA.out 0).trans rfl
        go_wp2_with fail
        go_ret
        exact ⟨congrArg (fun z => Ending.returned (.int .i64 z)) (first_at c 5 HV.out 14 0 (by decide) (by decide) (fun j _ hj => HK.out j hj)).symm, below_step HB.out HR.out⟩
    · have ik : ∀ w, (Instr.index 70 (.agg R) (.int .i64 6)).run Tryz.prog w = .ok (.agg #[.int .i64 7, .func (.func 52) #[] #[]]) w := fun _ => by kernel_rfl
      have hcast : ((6 : Nat) : Int) = 6 := rfl
      go_upto_region 4 with fail
      have HA := Aside0.mk (blk_new wr (.cells #[.int .i64 7, .func (.func 52) #[] #[]] 69))
      have HQ := Aside0.mk (blk_alloc (blk_below HX.out HR.out) (.cells #[.int .i64 7, .func (.func 52) #[] #[]] 69))
      replace HR := Aside0.mk (below_alloc HR.out (.cells #[.int .i64 7, .func (.func 52) #[] #[]] 69))
      generalize wr.alloc (.cells #[.int .i64 7, .func (.func 52) #[] #[]] 69) = wq at HA HQ HR ⊢
      generalize wr.heap.size = a at HA ⊢
      have y1 : wq.cell? ⟨a, 1, none⟩ = some (.func (.func 52) #[] #[]) := (blk_cell HA.out 1).trans rfl
      iterate 8 go_step
      refine wp_load_whole 28 (.tmp 1) rfl b 28 c.v (0, 0) rfl HQ.out _ Tryz.underlying28 rfl (by kernel_rfl) ?_
      clear y1
      go_wp2_with fail
      refine (show Calls Tryz.prog 52 #[.agg c.v] wq fun e w' => e = .returned (.bool (ruleB c 6)) ∧ Below wq.heap.size wq w' from rule52 wq c).mono ?_
      rintro e w3 ⟨rfl, hb⟩
      replace HR := Aside0.mk (below_step HR.out hb)
      replace HA := Aside0.mk (blk_below HA.out hb)
      clear hb HQ
      obtain ⟨q, HV⟩ : ∃ q, Aside0 (ruleB c 6 = q) := ⟨_, ⟨rfl⟩⟩
      rw [HV.out]
      cases q with
      | true =>
        go_wp2_with fail
        go_roundw
        case rel => exact ⟨7, by decide, rfl, HR, ⟨upto_next HK.out HV.out⟩⟩
        case measure => decide
      | false =>
        have y0 : w3.cell? ⟨a, 0, none⟩ = some (.int .i64 7) := (blk_cell HA.out 0).trans rfl
        go_wp2_with fail
        go_ret
        exact ⟨congrArg (fun z => Ending.returned (.int .i64 z)) (first_at c 6 HV.out 14 0 (by decide) (by decide) (fun j _ hj => HK.out j hj)).symm, below_step HB.out HR.out⟩
    · have ik : ∀ w, (Instr.index 70 (.agg R) (.int .i64 7)).run Tryz.prog w = .ok (.agg #[.int .i64 8, .func (.func 54) #[] #[]]) w := fun _ => by kernel_rfl
      have hcast : ((7 : Nat) : Int) = 7 := rfl
      go_upto_region 4 with fail
      have HA := Aside0.mk (blk_new wr (.cells #[.int .i64 8, .func (.func 54) #[] #[]] 69))
      have HQ := Aside0.mk (blk_alloc (blk_below HX.out HR.out) (.cells #[.int .i64 8, .func (.func 54) #[] #[]] 69))
      replace HR := Aside0.mk (below_alloc HR.out (.cells #[.int .i64 8, .func (.func 54) #[] #[]] 69))
      generalize wr.alloc (.cells #[.int .i64 8, .func (.func 54) #[] #[]] 69) = wq at HA HQ HR ⊢
      generalize wr.heap.size = a at HA ⊢
      have y1 : wq.cell? ⟨a, 1, none⟩ = some (.func (.func 54) #[] #[]) := (blk_cell HA.out 1).trans rfl
      iterate 8 go_step
      refine wp_load_whole 28 (.tmp 1) rfl b 28 c.v (0, 0) rfl HQ.out _ Tryz.underlying28 rfl (by kernel_rfl) ?_
      clear y1
      go_wp2_with fail
      refine (show Calls Tryz.prog 54 #[.agg c.v] wq fun e w' => e = .returned (.bool (ruleB c 7)) ∧ Below wq.heap.size wq w' from rule54 wq c).mono ?_
      rintro e w3 ⟨rfl, hb⟩
      replace HR := Aside0.mk (below_step HR.out hb)
      replace HA := Aside0.mk (blk_below HA.out hb)
      clear hb HQ
      obtain ⟨q, HV⟩ : ∃ q, Aside0 (ruleB c 7 = q) := ⟨_, ⟨rfl⟩⟩
      rw [HV.out]
      cases q with
      | true =>
        go_wp2_with fail
        go_roundw
        case rel => exact ⟨8, by decide, rfl, HR, ⟨upto_next HK.out HV.out⟩⟩
        case measure => decide
      | false =>
        have y0 : w3.cell? ⟨a, 0, none⟩ = some (.int .i64 8) := (blk_cell HA.out 0).trans rfl
        go_wp2_with fail
        go_ret
        exact ⟨congrArg (fun z => Ending.returned (.int .i64 z)) (first_at c 7 HV.out 14 0 (by decide) (by decide) (fun j _ hj => HK.out j hj)).symm, below_step HB.out HR.out⟩
    · have ik : ∀ w, (Instr.index 70 (.agg R) (.int .i64 8)).run Tryz.prog w = .ok (.agg #[.int .i64 9, .func (.func 55) #[] #[]]) w := fun _ => by kernel_rfl
      have hcast : ((8 : Nat) : Int) = 8 := rfl
      go_upto_region 4 with fail
      have HA := Aside0.mk (blk_new wr (.cells #[.int .i64 9, .func (.func 55) #[] #[]] 69))
      have HQ := Aside0.mk (blk_alloc (blk_below HX.out HR.out) (.cells #[.int .i64 9, .func (.func 55) #[] #[]] 69))
      replace HR := Aside0.mk (below_alloc HR.out (.cells #[.int .i64 9, .func (.func 55) #[] #[]] 69))
      generalize wr.alloc (.cells #[.int .i64 9, .func (.func 55) #[] #[]] 69) = wq at HA HQ HR ⊢
      generalize wr.heap.size = a at HA ⊢
      have y1 : wq.cell? ⟨a, 1, none⟩ = some (.func (.func 55) #[] #[]) := (blk_cell HA.out 1).trans rfl
      iterate 8 go_step
      refine wp_load_whole 28 (.tmp 1) rfl b 28 c.v (0, 0) rfl HQ.out _ Tryz.underlying28 rfl (by kernel_rfl) ?_
      clear y1
      go_wp2_with fail
      refine (show Calls Tryz.prog 55 #[.agg c.v] wq fun e w' => e = .returned (.bool (ruleB c 8)) ∧ Below wq.heap.size wq w' from rule55 wq c).mono ?_
      rintro e w3 ⟨rfl, hb⟩
      replace HR := Aside0.mk (below_step HR.out hb)
      replace HA := Aside0.mk (blk_below HA.out hb)
      clear hb HQ
      obtain ⟨q, HV⟩ : ∃ q, Aside0 (ruleB c 8 = q) := ⟨_, ⟨rfl⟩⟩
      rw [HV.out]
      cases q with
      | true =>
        go_wp2_with fail
        go_roundw
        case rel => exact ⟨9, by decide, rfl, HR, ⟨upto_next HK.out HV.out⟩⟩
        case measure => decide
      | false =>
        have y0 : w3.cell? ⟨a, 0, none⟩ = some (.int .i64 9) := (blk_cell HA.out 0).trans rfl
        go_wp2_with fail
        go_ret
        exact ⟨congrArg (fun z => Ending.returned (.int .i64 z)) (first_at c 8 HV.out 14 0 (by decide) (by decide) (fun j _ hj => HK.out j hj)).symm, below_step HB.out HR.out⟩
    · have ik : ∀ w, (Instr.index 70 (.agg R) (.int .i64 9)).run Tryz.prog w = .ok (.agg #[.int .i64 10, .func (.func 57) #[] #[]]) w := fun _ => by kernel_rfl
      have hcast : ((9 : Nat) : Int) = 9 := rfl
      go_upto_region 4 with fail
      have HA := Aside0.mk (blk_new wr (.cells #[.int .i64 10, .func (.func 57) #[] #[]] 69))
      have HQ := Aside0.mk (blk_alloc (blk_below HX.out HR.out) (.cells #[.int .i64 10, .func (.func 57) #[] #[]] 69))
      replace HR := Aside0.mk (below_alloc HR.out (.cells #[.int .i64 10, .func (.func 57) #[] #[]] 69))
      generalize wr.alloc (.cells #[.int .i64 10, .func (.func 57) #[] #[]] 69) = wq at HA HQ HR ⊢
      generalize wr.heap.size = a at HA ⊢
      have y1 : wq.cell? ⟨a, 1, none⟩ = some (.func (.func 57) #[] #[]) := (blk_cell HA.out 1).trans rfl
      iterate 8 go_step
      refine wp_load_whole 28 (.tmp 1) rfl b 28 c.v (0, 0) rfl HQ.out _ Tryz.underlying28 rfl (by kernel_rfl) ?_
      clear y1
      go_wp2_with fail
      refine (show Calls Tryz.prog 57 #[.agg c.v] wq fun e w' => e = .returned (.bool (ruleB c 9)) ∧ Below wq.heap.size wq w' from rule57 wq c).mono ?_
      rintro e w3 ⟨rfl, hb⟩
      replace HR := Aside0.mk (below_step HR.out hb)
      replace HA := Aside0.mk (blk_below HA.out hb)
      clear hb HQ
      obtain ⟨q, HV⟩ : ∃ q, Aside0 (ruleB c 9 = q) := ⟨_, ⟨rfl⟩⟩
      rw [HV.out]
      cases q with
      | true =>
        go_wp2_with fail
        go_roundw
        case rel => exact ⟨10, by decide, rfl, HR, ⟨upto_next HK.out HV.out⟩⟩
        case measure => decide
      | false =>
        have y0 : w3.cell? ⟨a, 0, none⟩ = some (.int .i64 10) := (blk_cell HA.out 0).trans rfl
        go_wp2_with fail
        go_ret
        exact ⟨congrArg (fun z => Ending.returned (.int .i64 z)) (first_at c 9 HV.out 14 0 (by decide) (by decide) (fun j _ hj => HK.out j hj)).symm, below_step HB.out HR.out⟩
    · have ik : ∀ w, (Instr.index 70 (.agg R) (.int .i64 10)).run Tryz.prog w = .ok (.agg #[.int .i64 11, .func (.func 58) #[] #[]]) w := fun _ => by kernel_rfl
      have hcast : ((10 : Nat) : Int) = 10 := rfl
      go_upto_region 4 with fail
      have HA := Aside0.mk (blk_new wr (.cells #[.int .i64 11, .func (.func 58) #[] #[]] 69))
      have HQ := Aside0.mk (blk_alloc (blk_below HX.out HR.out) (.cells #[.int .i64 11, .func (.func 58) #[] #[]] 69))
      replace HR := Aside0.mk (below_alloc HR.out (.cells #[.int .i64 11, .func (.func 58) #[] #[]] 69))
      generalize wr.alloc (.cells #[.int .i64 11, .func (.func 58) #[] #[]] 69) = wq at HA HQ HR ⊢
      generalize wr.heap.size = a at HA ⊢
      have y1 : wq.cell? ⟨a, 1, none⟩ = some (.func (.func 58) #[] #[]) := (blk_cell HA.out 1).trans rfl
      iterate 8 go_step
      refine wp_load_whole 28 (.tmp 1) rfl b 28 c.v (0, 0) rfl HQ.out _ Tryz.underlying28 rfl (by kernel_rfl) ?_
      clear y1
      go_wp2_with fail
      refine (show Calls Tryz.prog 58 #[.agg c.v] wq fun e w' => e = .returned (.bool (ruleB c 10)) ∧ Below wq.heap.size wq w' from rule58 wq c).mono ?_
      rintro e w3 ⟨rfl, hb⟩
      replace HR := Aside0.mk (below_step HR.out hb)
      replace HA := Aside0.mk (blk_below HA.out hb)
      clear hb HQ
      obtain ⟨q, HV⟩ : ∃ q, Aside0 (ruleB c 10 = q) := ⟨_, ⟨rfl⟩⟩
      rw [HV.out]
      cases q with
      | true =>
        go_wp2_with fail
        go_roundw
        case rel => exact ⟨11, by decide, rfl, HR, ⟨upto_next HK.out HV.out⟩⟩
        case measure => decide
      | false =>
        have y0 : w3.cell? ⟨a, 0, none⟩ = some (.int .i64 11) := (blk_cell HA.out 0).trans rfl
        go_wp2_with fail
        go_ret
        exact ⟨congrArg (fun z => Ending.returned (.int .i64 z)) (first_at c 10 HV.out 14 0 (by decide) (by decide) (fun j _ hj => HK.out j hj)).symm, below_step HB.out HR.out⟩
    · have ik : ∀ w, (Instr.index 70 (.agg R) (.int .i64 11)).run Tryz.prog w = .ok (.agg #[.int .i64 12, .func (.func 59) #[] #[]]) w := fun _ => by kernel_rfl
      have hcast : ((11 : Nat) : Int) = 11 := rfl
      go_upto_region 4 with fail
      have HA := Aside0.mk (blk_new wr (.cells #[.int .i64 12, .func (.func 59) #[] #[]] 69))
      have HQ := Aside0.mk (blk_alloc (blk_below HX.out HR.out) (.cells #[.int .i64 12, .func (.func 59) #[] #[]] 69))
      replace HR := Aside0.mk (below_alloc HR.out (.cells #[.int .i64 12, .func (.func 59) #[] #[]] 69))
      generalize wr.alloc (.cells #[.int .i64 12, .func (.func 59) #[] #[]] 69) = wq at HA HQ HR ⊢
      generalize wr.heap.size = a at HA ⊢
      have y1 : wq.cell? ⟨a, 1, none⟩ = some (.func (.func 59) #[] #[]) := (blk_cell HA.out 1).trans rfl
      iterate 8 go_step
      refine wp_load_whole 28 (.tmp 1) rfl b 28 c.v (0, 0) rfl HQ.out _ Tryz.underlying28 rfl (by kernel_rfl) ?_
      clear y1
      go_wp2_with fail
      refine (show Calls Tryz.prog 59 #[.agg c.v] wq fun e w' => e = .returned (.bool (ruleB c 11)) ∧ Below wq.heap.size wq w' from rule59 wq c).mono ?_
      rintro e w3 ⟨rfl, hb⟩
      replace HR := Aside0.mk (below_step HR.out hb)
      replace HA := Aside0.mk (blk_below HA.out hb)
      clear hb HQ
      obtain ⟨q, HV⟩ : ∃ q, Aside0 (ruleB c 11 = q) := ⟨_, ⟨rfl⟩⟩
      rw [HV.out]
      cases q with
      | true =>
        go_wp2_with fail
        go_roundw
        case rel => exact ⟨12, by decide, rfl, HR, ⟨upto_next HK.out HV.out⟩⟩
        case measure => decide
      | false =>
        have y0 : w3.cell? ⟨a, 0, none⟩ = some (.int .i64 12) := (blk_cell HA.out 0).trans rfl
        go_wp2_with fail
        go_ret
        exact ⟨congrArg (fun z => Ending.returned (.int .i64 z)) (first_at c 11 HV.out 14 0 (by decide) (by decide) (fun j _ hj => HK.out j hj)).symm, below_step HB.out HR.out⟩
    · have ik : ∀ w, (Instr.index 70 (.agg R) (.int .i64 12)).run Tryz.prog w = .ok (.agg #[.int .i64 13, .func (.func 60) #[] #[]]) w := fun _ => by kernel_rfl
      have hcast : ((12 : Nat) : Int) = 12 := rfl
      go_upto_region 4 with fail
      have HA := Aside0.mk (blk_new wr (.cells #[.int .i64 13, .func (.func 60) #[] #[]] 69))
      have HQ := Aside0.mk (blk_alloc (blk_below HX.out HR.out) (.cells #[.int .i64 13, .func (.func 60) #[] #[]] 69))
      replace HR := Aside0.mk (below_alloc HR.out (.cells #[.int .i64 13, .func (.func 60) #[] #[]] 69))
      generalize wr.alloc (.cells #[.int .i64 13, .func (.func 60) #[] #[]] 69) = wq at HA HQ HR ⊢
      generalize wr.heap.size = a at HA ⊢
      have y1 : wq.cell? ⟨a, 1, none⟩ = some (.func (.func 60) #[] #[]) := (blk_cell HA.out 1).trans rfl
      iterate 8 go_step
      refine wp_load_whole 28 (.tmp 1) rfl b 28 c.v (0, 0) rfl HQ.out _ Tryz.underlying28 rfl (by kernel_rfl) ?_
      clear y1
      go_wp2_with fail
      refine (show Calls Tryz.prog 60 #[.agg c.v] wq fun e w' => e = .returned (.bool (ruleB c 12)) ∧ Below wq.heap.size wq w' from rule60 wq c).mono ?_
      rintro e w3 ⟨rfl, hb⟩
      replace HR := Aside0.mk (below_step HR.out hb)
      replace HA := Aside0.mk (blk_below HA.out hb)
      clear hb HQ
      obtain ⟨q, HV⟩ : ∃ q, Aside0 (ruleB c 12 = q) := ⟨_, ⟨rfl⟩⟩
      rw [HV.out]
      cases q with
      | true =>
        go_wp2_with fail
        go_roundw
        case rel => exact ⟨13, by decide, rfl, HR, ⟨upto_next HK.out HV.out⟩⟩
        case measure => decide
      | false =>
        have y0 : w3.cell? ⟨a, 0, none⟩ = some (.int .i64 13) := (blk_cell HA.out 0).trans rfl
        go_wp2_with fail
        go_ret
        exact ⟨congrArg (fun z => Ending.returned (.int .i64 z)) (first_at c 12 HV.out 14 0 (by decide) (by decide) (fun j _ hj => HK.out j hj)).symm, below_step HB.out HR.out⟩
    · have ik : ∀ w, (Instr.index 70 (.agg R) (.int .i64 13)).run Tryz.prog w = .ok (.agg #[.int .i64 14, .func (.func 61) #[] #[]]) w := fun _ => by kernel_rfl
      have hcast : ((13 : Nat) : Int) = 13 := rfl
      go_upto_region 4 with fail
      have HA := Aside0.mk (blk_new wr (.cells #[.int .i64 14, .func (.func 61) #[] #[]] 69))
      have HQ := Aside0.mk (blk_alloc (blk_below HX.out HR.out) (.cells #[.int .i64 14, .func (.func 61) #[] #[]] 69))
      replace HR := Aside0.mk (below_alloc HR.out (.cells #[.int .i64 14, .func (.func 61) #[] #[]] 69))
      generalize wr.alloc (.cells #[.int .i64 14, .func (.func 61) #[] #[]] 69) = wq at HA HQ HR ⊢
      generalize wr.heap.size = a at HA ⊢
      have y1 : wq.cell? ⟨a, 1, none⟩ = some (.func (.func 61) #[] #[]) := (blk_cell HA.out 1).trans rfl
      iterate 8 go_step
      refine wp_load_whole 28 (.tmp 1) rfl b 28 c.v (0, 0) rfl HQ.out _ Tryz.underlying28 rfl (by kernel_rfl) ?_
      clear y1
      go_wp2_with fail
      refine (show Calls Tryz.prog 61 #[.agg c.v] wq fun e w' => e = .returned (.bool (ruleB c 13)) ∧ Below wq.heap.size wq w' from rule61 wq c).mono ?_
      rintro e w3 ⟨rfl, hb⟩
      replace HR := Aside0.mk (below_step HR.out hb)
      replace HA := Aside0.mk (blk_below HA.out hb)
      clear hb HQ
      obtain ⟨q, HV⟩ : ∃ q, Aside0 (ruleB c 13 = q) := ⟨_, ⟨rfl⟩⟩
      rw [HV.out]
      cases q with
      | true =>
        go_wp2_with fail
        go_roundw
        case rel => exact ⟨14, by decide, rfl, HR, ⟨upto_next HK.out HV.out⟩⟩
        case measure => decide
      | false =>
        have y0 : w3.cell? ⟨a, 0, none⟩ = some (.int .i64 14) := (blk_cell HA.out 0).trans rfl
        go_wp2_with fail
        go_ret
        exact ⟨congrArg (fun z => Ending.returned (.int .i64 z)) (first_at c 13 HV.out 14 0 (by decide) (by decide) (fun j _ hj => HK.out j hj)).symm, below_step HB.out HR.out⟩
    · have hcast : ((14 : Nat) : Int) = 14 := rfl
      go_wp2_with fail
      go_ret
      exact ⟨congrArg (fun z => Ending.returned (.int .i64 z)) (first_none c 14 0 (fun j _ hj => HK.out j hj)).symm, below_step HB.out HR.out⟩
end Go.Proofs.YtpdahkgandaabaaGreatDoor.Ch
