/- The bytes of what was told (layer 21): the walk of tape.Told; lines that print.sh wrote for this law. -/
import Derived.Test.YtoknlaknffpigaaPTapeToldx1
namespace Go.Proofs.Ytoknlaknffpigaa.PTapeTold
open Go.RowKit Go.Proofs.YtoknlaknffpigaaW.PrintWords Go.Proofs.YtoknlaknffpigaaW.PrintLast Go.Proofs.YtoknlaknffpigaaW.PrintMore
attribute [local go_sem] max2_int min2_int max_two min_two max_three min_three max_four min_four   -- for this text's walks alone
set_option linter.unusedVariables false
set_option linter.unusedSimpArgs false
def tape_Told.l0 : Nat → List Int → List (S98) → Int → Int → Option (List Int)
  | 0, _, _, _, _ => none
  | k + 1, x3, x6, x7, x8 => if x8 < x7 then (if 0 ≤ x8 then (if x8 < (x6.length : Int) then ((tape_flags.f k (([(rd_T98 x6 x8).f1, (rd_T98 x6 x8).f2, (rd_T98 x6 x8).f3, (rd_T98 x6 x8).f4, (rd_T98 x6 x8).f5] : List Bool))).bind fun t142 => ((some (([((rd_T98 x6 x8).f0) % 256, t142, 0, 0] : List Int) : List Int)).bind fun y143 => (if x3.length + y143.length < 140737488355328 then ((tape_numbers.f k (x3 ++ y143) (([(rd_T98 x6 x8).f6, (rd_T98 x6 x8).f7, (rd_T98 x6 x8).f8] : List Int))).bind fun t152 => (tape_Told.l0 k t152 x6 x7 (wrap64 (x8 + 1)))) else (none)))) else (none)) else (none)) else (some x3)
def tape_Told.f (k : Nat) (l0 : List (S98)) : Option (List Int) := tape_Told.l0 k ([] : List Int) l0 (l0.length : Int) 0
theorem tape_Told.mono_l : ∀ k, (∀ y0 y1 y2 y3, LeO (tape_Told.l0 k y0 y1 y2 y3) (tape_Told.l0 (k + 1) y0 y1 y2 y3))
  | 0 => fun _ _ _ _ r h => by simp [tape_Told.l0] at h
  | k + 1 => by
    have ih0 := tape_Told.mono_l k
    · intro y0 y1 y2 y3
      unfold tape_Told.l0
      repeat' first
      | (with_reducible exact ih0 _ _ _ _)
      | (with_reducible exact tape_flags.mono _ _)
      | (with_reducible exact tape_numbers.mono _ _ _)
      | (with_reducible exact LeO.refl _)
      | (with_reducible exact LeO.none _)
      | (with_reducible refine LeO.ite ?_ ?_)
      | (with_reducible refine LeO.bind ?_ (fun _ => ?_))
      | exact ih0 _ _ _ _
      | exact tape_flags.mono _ _
      | exact tape_numbers.mono _ _ _
      | exact LeO.none _
      | refine LeO.ite ?_ ?_
      | refine LeO.bind ?_ (fun _ => ?_)
theorem tape_Told.mono : ∀ a0 k, LeO (tape_Told.f k a0) (tape_Told.f (k + 1) a0) := by
  intro a0 k
  have ih0 := tape_Told.mono_l k
  unfold tape_Told.f
  repeat' first
      | (with_reducible exact ih0 _ _ _ _)
      | (with_reducible exact tape_flags.mono _ _)
      | (with_reducible exact tape_numbers.mono _ _ _)
      | (with_reducible exact LeO.refl _)
      | (with_reducible exact LeO.none _)
      | (with_reducible refine LeO.ite ?_ ?_)
      | (with_reducible refine LeO.bind ?_ (fun _ => ?_))
      | exact ih0 _ _ _ _
      | exact tape_flags.mono _ _
      | exact tape_numbers.mono _ _ _
      | exact LeO.none _
      | refine LeO.ite ?_ ?_
      | refine LeO.bind ?_ (fun _ => ?_)
def tape_Told.T5 : Bool × List (List Nat × List Nat) := (true, [([], []), ([], []), ([1], [1]), ([2], [2]), ([], []), ([4], [4]), ([], []), ([6], [6]), ([], []), ([8], [8]), ([], []), ([10], [10]), ([], []), ([12], [12]), ([5, 7, 9, 11, 13], [5, 7, 9, 11, 13]), ([14], [14]), ([3, 15], [3, 15]), ([0, 16, 15], [0, 16]), ([17, 17, 0, 1, 2, 3, 4, 5, 6, 7, 8, 9, 10, 11, 12, 13, 14, 15, 16, 17], [0, 17])])
def tape_Told.B5 : List Nat := [0, 0, 2, 6, 0, 16, 0, 64, 0, 256, 0, 1024, 0, 4096, 16368, 32752, 65534, 131071, 262143]
theorem tape_Told.tab5 : rtab .any (opsOf Try.f40 5) = tape_Told.T5 := by kernel_rfl
theorem tape_Told.bits5 : waitsOk tape_Told.T5.2 tape_Told.B5 = true := by kernel_rfl
set_option maxHeartbeats 8000000 in
set_option maxRecDepth 100000 in
theorem tape_Told.calls (k : Nat) (A0 : Option Addr) (c0 : Nat) (l0 : List (S98)) (r : List Int) (w : World) (hr0 : Kd.C k98 w A0 l0.length l0) (hc0 : l0.length ≤ c0) (h : tape_Told.f k l0 = some r) :
    Calls Try.prog 40 #[.slice A0 l0.length c0] w fun e w' => ∃ v0_ : Value, e = .returned (v0_) ∧ Kd.R (Kd.int .u8) 5 w' w.heap.size (fun _ => True) v0_ r ∧ Below w.heap.size w w' := by
  have hu98 := Try.underlying98
  have HR0 := Aside0.mk hr0
  have HC0 := Aside0.mk hc0
  clear hr0 hc0
  have HB := Aside0.mk (Below.refl w.heap.size w)
  have H : (tape_Told.l0 k ([] : List Int) l0 (l0.length : Int) 0) = some r := h
  clear h
  have H' := Aside0.mk H
  clear H
  go_enter Try.func40, Try.ntmps40
  go_wp2
  go_loopg [3, 8] k (fun kq v3 v8 w' => ∃ (x3_1 : List Int) (x8_1 : Int), v8 = .int .i64 x8_1 ∧ Aside0 (tape_Told.l0 kq x3_1 l0 (l0.length : Int) x8_1 = some r) ∧ Aside0 (kq ≤ k) ∧ Aside0 (Kd.R (Kd.int .u8) 5 w' w.heap.size (fun _ => True) v3 x3_1) ∧ Aside0 (Below w.heap.size w w'))
  case atStart => exact ⟨(([] : List Int)), (0), (by first | rfl | (simp; done) | (simp [*]; done)), H', ⟨Nat.le_refl _⟩, ⟨by first | exact Kd.R_nil _ _ _ _ _ | exact Kd.N_nil _ _ _ _ _ | exact Kd.V_nil _ _ _ _ _ | exact Kd.Q_nil _ _ _ _ _ | exact Kd.S_nil _ _ _ _ _⟩, ⟨by repeat (first | (with_reducible first | exact HB.out | apply below_alloc | apply pw_below_drewN | apply below_drew1) | exact HB.out)⟩⟩
  case round =>
    clear H'
    obtain ⟨x3_1, x8_1, rfl, HA, HK1, HO_3, HB⟩ := hrel
    cases gk with
    | zero => exact absurd HA.out (by simp [tape_Told.l0])
    | succ k1 =>
      have H := HA.out
      clear HA
      simp only [tape_Told.l0] at H
      by_cases c2 : x8_1 < (l0.length : Int)
      · rw [if_pos c2] at H
        have c2b0 : decide (x8_1 < (l0.length : Int)) = true := decide_eq_true c2
        clear c2
        by_cases c3 : 0 ≤ x8_1
        · rw [if_pos c3] at H
          have c3b0 : decide (0 ≤ x8_1) = true := decide_eq_true c3
          clear c3
          by_cases c4 : x8_1 < (l0.length : Int)
          · rw [if_pos c4] at H
            have c4b0 : decide (x8_1 < (l0.length : Int)) = true := decide_eq_true c4
            clear c4
            obtain ⟨y139, hy139⟩ : ∃ y_ : List Bool, y_ = (([(rd_T98 l0 x8_1).f1, (rd_T98 l0 x8_1).f2, (rd_T98 l0 x8_1).f3, (rd_T98 l0 x8_1).f4, (rd_T98 l0 x8_1).f5] : List Bool)) := ⟨_, rfl⟩
            replace H : ((tape_flags.f k1 y139).bind fun t142 => ((some (([((rd_T98 l0 x8_1).f0) % 256, t142, 0, 0] : List Int) : List Int)).bind fun y143 => (if x3_1.length + y143.length < 140737488355328 then ((tape_numbers.f k1 (x3_1 ++ y143) (([(rd_T98 l0 x8_1).f6, (rd_T98 l0 x8_1).f7, (rd_T98 l0 x8_1).f8] : List Int))).bind fun t152 => (tape_Told.l0 k1 t152 l0 (l0.length : Int) (wrap64 (x8_1 + 1)))) else (none)))) = some r := by first | (rw [hy139]; with_reducible exact H) | (have H2_ := (Option.bind_some _ _).symm.trans H; rw [hy139]; with_reducible exact H2_) | (have H2_ := (Option.bind_some _ _).symm.trans H; with_reducible exact H2_) | with_reducible exact H | (rw [hy139]; exact H) | exact H
            have Ny139 := Aside0.mk hy139
            clear hy139
            replace H := Option.bind_eq_some_iff.mp H
            obtain ⟨t142, A50, H⟩ := H
            replace H : ((some (([((rd_T98 l0 x8_1).f0) % 256, t142, 0, 0] : List Int) : List Int)).bind fun y143 => (if x3_1.length + y143.length < 140737488355328 then ((tape_numbers.f k1 (x3_1 ++ y143) (([(rd_T98 l0 x8_1).f6, (rd_T98 l0 x8_1).f7, (rd_T98 l0 x8_1).f8] : List Int))).bind fun t152 => (tape_Told.l0 k1 t152 l0 (l0.length : Int) (wrap64 (x8_1 + 1)))) else (none))) = some r := H
            have A5 := Aside0.mk A50
            clear A50
            obtain ⟨y143, hy143⟩ : ∃ y_ : List Int, y_ = (([((rd_T98 l0 x8_1).f0) % 256, t142, 0, 0] : List Int)) := ⟨_, rfl⟩
            replace H : (if x3_1.length + y143.length < 140737488355328 then ((tape_numbers.f k1 (x3_1 ++ y143) (([(rd_T98 l0 x8_1).f6, (rd_T98 l0 x8_1).f7, (rd_T98 l0 x8_1).f8] : List Int))).bind fun t152 => (tape_Told.l0 k1 t152 l0 (l0.length : Int) (wrap64 (x8_1 + 1)))) else (none)) = some r := by first | (rw [hy143]; with_reducible exact H) | (have H2_ := (Option.bind_some _ _).symm.trans H; rw [hy143]; with_reducible exact H2_) | (have H2_ := (Option.bind_some _ _).symm.trans H; with_reducible exact H2_) | with_reducible exact H | (rw [hy143]; exact H) | exact H
            have Ny143 := Aside0.mk hy143
            clear hy143
            by_cases c6 : x3_1.length + y143.length < 140737488355328
            · rw [if_pos c6] at H
              have LMc6 := Aside0.mk c6
              clear c6
              obtain ⟨y146, hy146⟩ : ∃ y_ : List Int, y_ = (x3_1 ++ y143) := ⟨_, rfl⟩
              replace H : ((tape_numbers.f k1 y146 (([(rd_T98 l0 x8_1).f6, (rd_T98 l0 x8_1).f7, (rd_T98 l0 x8_1).f8] : List Int))).bind fun t152 => (tape_Told.l0 k1 t152 l0 (l0.length : Int) (wrap64 (x8_1 + 1)))) = some r := by first | (rw [hy146]; with_reducible exact H) | (have H2_ := (Option.bind_some _ _).symm.trans H; rw [hy146]; with_reducible exact H2_) | (have H2_ := (Option.bind_some _ _).symm.trans H; with_reducible exact H2_) | with_reducible exact H | (rw [hy146]; exact H) | exact H
              have Ny146 := Aside0.mk hy146
              clear hy146
              obtain ⟨y149, hy149⟩ : ∃ y_ : List Int, y_ = (([(rd_T98 l0 x8_1).f6, (rd_T98 l0 x8_1).f7, (rd_T98 l0 x8_1).f8] : List Int)) := ⟨_, rfl⟩
              replace H : ((tape_numbers.f k1 y146 y149).bind fun t152 => (tape_Told.l0 k1 t152 l0 (l0.length : Int) (wrap64 (x8_1 + 1)))) = some r := by first | (rw [hy149]; with_reducible exact H) | (have H2_ := (Option.bind_some _ _).symm.trans H; rw [hy149]; with_reducible exact H2_) | (have H2_ := (Option.bind_some _ _).symm.trans H; with_reducible exact H2_) | with_reducible exact H | (rw [hy149]; exact H) | exact H
              have Ny149 := Aside0.mk hy149
              clear hy149
              replace H := Option.bind_eq_some_iff.mp H
              obtain ⟨t152, A70, H⟩ := H
              replace H : (tape_Told.l0 k1 t152 l0 (l0.length : Int) (wrap64 (x8_1 + 1))) = some r := H
              have A7 := Aside0.mk A70
              clear A70
              have H' := Aside0.mk H
              clear H
              have p137 : 0 ≤ (x8_1 : Int) := of_decide_eq_true (by first | (with_reducible assumption) | assumption)
              have q137 : x8_1 < (l0.length : Int) := of_decide_eq_true (by first | (with_reducible assumption) | assumption)
              obtain ⟨ad137, e137, hx137_0, hx137_1, hx137_2, hx137_3, hx137_4, hx137_5, hx137_6, hx137_7, hx137_8⟩ := at_T98 HR0.out x8_1 p137 q137
              cases e137
              replace hx137_0 := (HB.out.cell (World.block_lt_of_cell? w _ hx137_0)).trans hx137_0
              replace hx137_1 := (HB.out.cell (World.block_lt_of_cell? w _ hx137_1)).trans hx137_1
              replace hx137_2 := (HB.out.cell (World.block_lt_of_cell? w _ hx137_2)).trans hx137_2
              replace hx137_3 := (HB.out.cell (World.block_lt_of_cell? w _ hx137_3)).trans hx137_3
              replace hx137_4 := (HB.out.cell (World.block_lt_of_cell? w _ hx137_4)).trans hx137_4
              replace hx137_5 := (HB.out.cell (World.block_lt_of_cell? w _ hx137_5)).trans hx137_5
              replace hx137_6 := (HB.out.cell (World.block_lt_of_cell? w _ hx137_6)).trans hx137_6
              replace hx137_7 := (HB.out.cell (World.block_lt_of_cell? w _ hx137_7)).trans hx137_7
              replace hx137_8 := (HB.out.cell (World.block_lt_of_cell? w _ hx137_8)).trans hx137_8
              replace p137 := eq_true p137
              replace q137 := eq_true q137
              try go_wp2_with (first | ((with_reducible refine gate_dst (N := 5) rfl ?_); refine box_event ?hg (N := 5) ?hd (cs := #[.int .i64 0, .bool false, .bool false, .bool false, .bool false, .bool false, .int .i64 0, .int .i64 0, .int .i64 0]) (t := 98) ?hr ?_; (case hd => rfl); (case hg => rfl); (case hr => first | (go_simp; done) | (go_simp; rfl)); intro gb138 hg w8 hbox hb; have n0_ := Aside0.mk (Kd.R_below (by (with_reducible repeat (first | apply Kd.R_alloc | apply Kd.R_drewN | apply Kd.R_drew)); exact HO_3.out) hb); have n1_ := Aside0.mk (below_step (by repeat (first | (with_reducible first | exact HB.out | apply below_alloc | apply pw_below_drewN | apply below_drew1) | exact HB.out)) hb); have n2_ := Aside0.mk (hbox); have n3_ := Aside0.mk ((by rw [hg]; exact (below_size (by repeat (first | (with_reducible first | exact HB.out | apply below_alloc | apply pw_below_drewN | apply below_drew1) | exact HB.out))) : w.heap.size ≤ gb138)); have n4_ := Aside0.mk ((by rw [hg]; exact (below_size (by repeat (first | (with_reducible first | exact HB.out | apply below_alloc | apply pw_below_drewN | apply below_drew1) | exact HB.out))) : w.heap.size ≤ gb138)); clear HO_3; clear HB; have HO_3 := n0_; have HB := n1_; have BK138 := n2_; have GW138 := n3_; have GE138 := n4_; clear n0_ n1_ n2_ n3_ n4_; clear hb hbox hg; have hcz9_0 : w8.cell? ⟨gb138, 0, none⟩ = some (.int .i64 0) := (blk_cell BK138.out 0).trans rfl; have hcz9_1 : w8.cell? ⟨gb138, 1, none⟩ = some (.bool false) := (blk_cell BK138.out 1).trans rfl; have hcz9_2 : w8.cell? ⟨gb138, 2, none⟩ = some (.bool false) := (blk_cell BK138.out 2).trans rfl; have hcz9_3 : w8.cell? ⟨gb138, 3, none⟩ = some (.bool false) := (blk_cell BK138.out 3).trans rfl; have hcz9_4 : w8.cell? ⟨gb138, 4, none⟩ = some (.bool false) := (blk_cell BK138.out 4).trans rfl; have hcz9_5 : w8.cell? ⟨gb138, 5, none⟩ = some (.bool false) := (blk_cell BK138.out 5).trans rfl; have hcz9_6 : w8.cell? ⟨gb138, 6, none⟩ = some (.int .i64 0) := (blk_cell BK138.out 6).trans rfl; have hcz9_7 : w8.cell? ⟨gb138, 7, none⟩ = some (.int .i64 0) := (blk_cell BK138.out 7).trans rfl; have hcz9_8 : w8.cell? ⟨gb138, 8, none⟩ = some (.int .i64 0) := (blk_cell BK138.out 8).trans rfl; have hfz9_0 := blk_frozen BK138.out 0; have hfz9_1 := blk_frozen BK138.out 1; have hfz9_2 := blk_frozen BK138.out 2; have hfz9_3 := blk_frozen BK138.out 3; have hfz9_4 := blk_frozen BK138.out 4; have hfz9_5 := blk_frozen BK138.out 5; have hfz9_6 := blk_frozen BK138.out 6; have hfz9_7 := blk_frozen BK138.out 7; have hfz9_8 := blk_frozen BK138.out 8))
              have n0_ : Aside0 (Kd.R (Kd.int .u8) 5 (((((((((w8.setCell ⟨gb138, 0, none⟩ (.int .i64 ((rd_T98 l0 x8_1).f0))).setCell ⟨gb138, 1, none⟩ (.bool ((rd_T98 l0 x8_1).f1))).setCell ⟨gb138, 2, none⟩ (.bool ((rd_T98 l0 x8_1).f2))).setCell ⟨gb138, 3, none⟩ (.bool ((rd_T98 l0 x8_1).f3))).setCell ⟨gb138, 4, none⟩ (.bool ((rd_T98 l0 x8_1).f4))).setCell ⟨gb138, 5, none⟩ (.bool ((rd_T98 l0 x8_1).f5))).setCell ⟨gb138, 6, none⟩ (.int .i64 ((rd_T98 l0 x8_1).f6))).setCell ⟨gb138, 7, none⟩ (.int .i64 ((rd_T98 l0 x8_1).f7))).setCell ⟨gb138, 8, none⟩ (.int .i64 ((rd_T98 l0 x8_1).f8))) w.heap.size (fun _ => True) u3 x3_1) := ⟨by (with_reducible repeat (first | apply Kd.R_alloc | apply Kd.R_drewN | apply Kd.R_drew)); exact Kd.R_mono (Kd.R_far (p := ⟨gb138, 8, none⟩) (Kd.R_far (p := ⟨gb138, 7, none⟩) (Kd.R_far (p := ⟨gb138, 6, none⟩) (Kd.R_far (p := ⟨gb138, 5, none⟩) (Kd.R_far (p := ⟨gb138, 4, none⟩) (Kd.R_far (p := ⟨gb138, 3, none⟩) (Kd.R_far (p := ⟨gb138, 2, none⟩) (Kd.R_far (p := ⟨gb138, 1, none⟩) (Kd.R_far (p := ⟨gb138, 0, none⟩) (Kd.R_types HO_3.out BK138.out (by decide)) (fun _ hk => hk.2) (.int .i64 ((rd_T98 l0 x8_1).f0))) (fun _ hk => hk.2) (.bool ((rd_T98 l0 x8_1).f1))) (fun _ hk => hk.2) (.bool ((rd_T98 l0 x8_1).f2))) (fun _ hk => hk.2) (.bool ((rd_T98 l0 x8_1).f3))) (fun _ hk => hk.2) (.bool ((rd_T98 l0 x8_1).f4))) (fun _ hk => hk.2) (.bool ((rd_T98 l0 x8_1).f5))) (fun _ hk => hk.2) (.int .i64 ((rd_T98 l0 x8_1).f6))) (fun _ hk => hk.2) (.int .i64 ((rd_T98 l0 x8_1).f7))) (fun _ hk => hk.2) (.int .i64 ((rd_T98 l0 x8_1).f8))) (fun _ hk => trivial)⟩
              have n1_ : Aside0 ((((((((((w8.setCell ⟨gb138, 0, none⟩ (.int .i64 ((rd_T98 l0 x8_1).f0))).setCell ⟨gb138, 1, none⟩ (.bool ((rd_T98 l0 x8_1).f1))).setCell ⟨gb138, 2, none⟩ (.bool ((rd_T98 l0 x8_1).f2))).setCell ⟨gb138, 3, none⟩ (.bool ((rd_T98 l0 x8_1).f3))).setCell ⟨gb138, 4, none⟩ (.bool ((rd_T98 l0 x8_1).f4))).setCell ⟨gb138, 5, none⟩ (.bool ((rd_T98 l0 x8_1).f5))).setCell ⟨gb138, 6, none⟩ (.int .i64 ((rd_T98 l0 x8_1).f6))).setCell ⟨gb138, 7, none⟩ (.int .i64 ((rd_T98 l0 x8_1).f7))).setCell ⟨gb138, 8, none⟩ (.int .i64 ((rd_T98 l0 x8_1).f8))).heap[gb138]? = some (.cells #[.int .i64 ((rd_T98 l0 x8_1).f0), .bool ((rd_T98 l0 x8_1).f1), .bool ((rd_T98 l0 x8_1).f2), .bool ((rd_T98 l0 x8_1).f3), .bool ((rd_T98 l0 x8_1).f4), .bool ((rd_T98 l0 x8_1).f5), .int .i64 ((rd_T98 l0 x8_1).f6), .int .i64 ((rd_T98 l0 x8_1).f7), .int .i64 ((rd_T98 l0 x8_1).f8)] 98 (0, 0))) := ⟨by (with_reducible repeat (first | refine blk_drewN ?_ _ | refine blk_drew ?_ | refine blk_alloc ?_ _)); refine blk_put (cs := #[.int .i64 ((rd_T98 l0 x8_1).f0), .bool ((rd_T98 l0 x8_1).f1), .bool ((rd_T98 l0 x8_1).f2), .bool ((rd_T98 l0 x8_1).f3), .bool ((rd_T98 l0 x8_1).f4), .bool ((rd_T98 l0 x8_1).f5), .int .i64 ((rd_T98 l0 x8_1).f6), .int .i64 ((rd_T98 l0 x8_1).f7), .int .i64 0]) ?_ 8 _ rfl; (with_reducible repeat (first | refine blk_drewN ?_ _ | refine blk_drew ?_ | refine blk_alloc ?_ _)); refine blk_put (cs := #[.int .i64 ((rd_T98 l0 x8_1).f0), .bool ((rd_T98 l0 x8_1).f1), .bool ((rd_T98 l0 x8_1).f2), .bool ((rd_T98 l0 x8_1).f3), .bool ((rd_T98 l0 x8_1).f4), .bool ((rd_T98 l0 x8_1).f5), .int .i64 ((rd_T98 l0 x8_1).f6), .int .i64 0, .int .i64 0]) ?_ 7 _ rfl; (with_reducible repeat (first | refine blk_drewN ?_ _ | refine blk_drew ?_ | refine blk_alloc ?_ _)); refine blk_put (cs := #[.int .i64 ((rd_T98 l0 x8_1).f0), .bool ((rd_T98 l0 x8_1).f1), .bool ((rd_T98 l0 x8_1).f2), .bool ((rd_T98 l0 x8_1).f3), .bool ((rd_T98 l0 x8_1).f4), .bool ((rd_T98 l0 x8_1).f5), .int .i64 0, .int .i64 0, .int .i64 0]) ?_ 6 _ rfl; (with_reducible repeat (first | refine blk_drewN ?_ _ | refine blk_drew ?_ | refine blk_alloc ?_ _)); refine blk_put (cs := #[.int .i64 ((rd_T98 l0 x8_1).f0), .bool ((rd_T98 l0 x8_1).f1), .bool ((rd_T98 l0 x8_1).f2), .bool ((rd_T98 l0 x8_1).f3), .bool ((rd_T98 l0 x8_1).f4), .bool false, .int .i64 0, .int .i64 0, .int .i64 0]) ?_ 5 _ rfl; (with_reducible repeat (first | refine blk_drewN ?_ _ | refine blk_drew ?_ | refine blk_alloc ?_ _)); refine blk_put (cs := #[.int .i64 ((rd_T98 l0 x8_1).f0), .bool ((rd_T98 l0 x8_1).f1), .bool ((rd_T98 l0 x8_1).f2), .bool ((rd_T98 l0 x8_1).f3), .bool false, .bool false, .int .i64 0, .int .i64 0, .int .i64 0]) ?_ 4 _ rfl; (with_reducible repeat (first | refine blk_drewN ?_ _ | refine blk_drew ?_ | refine blk_alloc ?_ _)); refine blk_put (cs := #[.int .i64 ((rd_T98 l0 x8_1).f0), .bool ((rd_T98 l0 x8_1).f1), .bool ((rd_T98 l0 x8_1).f2), .bool false, .bool false, .bool false, .int .i64 0, .int .i64 0, .int .i64 0]) ?_ 3 _ rfl; (with_reducible repeat (first | refine blk_drewN ?_ _ | refine blk_drew ?_ | refine blk_alloc ?_ _)); refine blk_put (cs := #[.int .i64 ((rd_T98 l0 x8_1).f0), .bool ((rd_T98 l0 x8_1).f1), .bool false, .bool false, .bool false, .bool false, .int .i64 0, .int .i64 0, .int .i64 0]) ?_ 2 _ rfl; (with_reducible repeat (first | refine blk_drewN ?_ _ | refine blk_drew ?_ | refine blk_alloc ?_ _)); refine blk_put (cs := #[.int .i64 ((rd_T98 l0 x8_1).f0), .bool false, .bool false, .bool false, .bool false, .bool false, .int .i64 0, .int .i64 0, .int .i64 0]) ?_ 1 _ rfl; (with_reducible repeat (first | refine blk_drewN ?_ _ | refine blk_drew ?_ | refine blk_alloc ?_ _)); refine blk_put (cs := #[.int .i64 0, .bool false, .bool false, .bool false, .bool false, .bool false, .int .i64 0, .int .i64 0, .int .i64 0]) ?_ 0 _ rfl; (with_reducible repeat (first | refine blk_drewN ?_ _ | refine blk_drew ?_ | refine blk_alloc ?_ _)); exact BK138.out⟩
              have n2_ : Aside0 (Below w.heap.size w (((((((((w8.setCell ⟨gb138, 0, none⟩ (.int .i64 ((rd_T98 l0 x8_1).f0))).setCell ⟨gb138, 1, none⟩ (.bool ((rd_T98 l0 x8_1).f1))).setCell ⟨gb138, 2, none⟩ (.bool ((rd_T98 l0 x8_1).f2))).setCell ⟨gb138, 3, none⟩ (.bool ((rd_T98 l0 x8_1).f3))).setCell ⟨gb138, 4, none⟩ (.bool ((rd_T98 l0 x8_1).f4))).setCell ⟨gb138, 5, none⟩ (.bool ((rd_T98 l0 x8_1).f5))).setCell ⟨gb138, 6, none⟩ (.int .i64 ((rd_T98 l0 x8_1).f6))).setCell ⟨gb138, 7, none⟩ (.int .i64 ((rd_T98 l0 x8_1).f7))).setCell ⟨gb138, 8, none⟩ (.int .i64 ((rd_T98 l0 x8_1).f8)))) := ⟨by repeat (first | (with_reducible first | exact HB.out | apply below_alloc | apply pw_below_drewN | apply below_drew1 | refine below_set ?_ GE138.out) | exact HB.out)⟩
              (try clear HO_3)
              (try clear BK138)
              (try clear HB)
              generalize (((((((((w8.setCell ⟨gb138, 0, none⟩ (.int .i64 ((rd_T98 l0 x8_1).f0))).setCell ⟨gb138, 1, none⟩ (.bool ((rd_T98 l0 x8_1).f1))).setCell ⟨gb138, 2, none⟩ (.bool ((rd_T98 l0 x8_1).f2))).setCell ⟨gb138, 3, none⟩ (.bool ((rd_T98 l0 x8_1).f3))).setCell ⟨gb138, 4, none⟩ (.bool ((rd_T98 l0 x8_1).f4))).setCell ⟨gb138, 5, none⟩ (.bool ((rd_T98 l0 x8_1).f5))).setCell ⟨gb138, 6, none⟩ (.int .i64 ((rd_T98 l0 x8_1).f6))).setCell ⟨gb138, 7, none⟩ (.int .i64 ((rd_T98 l0 x8_1).f7))).setCell ⟨gb138, 8, none⟩ (.int .i64 ((rd_T98 l0 x8_1).f8))) = w10 at n0_ n1_ n2_ ⊢
              have HO_3 := n0_
              have BK138 := n1_
              have HB := n2_
              clear n0_ n1_ n2_
              have n0_ := Aside0.mk (Kd.R_drew HO_3.out)
              have n1_ := Aside0.mk (blk_drew BK138.out)
              have n2_ := Aside0.mk (below_drew1 HB.out)
              clear HO_3
              clear BK138
              clear HB
              have HO_3 := n0_
              have BK138 := n1_
              have HB := n2_
              clear n0_ n1_ n2_
              refine start_ (n := 19) (S := fun w' => w'.cell? ⟨gb138, 0, none⟩ = some (.int .i64 ((rd_T98 l0 x8_1).f0)) ∧ w'.cell? ⟨gb138, 1, none⟩ = some (.bool ((rd_T98 l0 x8_1).f1)) ∧ w'.cell? ⟨gb138, 2, none⟩ = some (.bool ((rd_T98 l0 x8_1).f2)) ∧ w'.cell? ⟨gb138, 3, none⟩ = some (.bool ((rd_T98 l0 x8_1).f3)) ∧ w'.cell? ⟨gb138, 4, none⟩ = some (.bool ((rd_T98 l0 x8_1).f4)) ∧ w'.cell? ⟨gb138, 5, none⟩ = some (.bool ((rd_T98 l0 x8_1).f5)) ∧ w'.cell? ⟨gb138, 6, none⟩ = some (.int .i64 ((rd_T98 l0 x8_1).f6)) ∧ w'.cell? ⟨gb138, 7, none⟩ = some (.int .i64 ((rd_T98 l0 x8_1).f7)) ∧ w'.cell? ⟨gb138, 8, none⟩ = some (.int .i64 ((rd_T98 l0 x8_1).f8))) (ds := []) #[false, false, false, false, false, false, false, false, false, false, false, false, false, false, false, false, false, false, false] (by kernel_rfl) rfl rfl ⟨(blk_cell BK138.out 0).trans rfl, (blk_cell BK138.out 1).trans rfl, (blk_cell BK138.out 2).trans rfl, (blk_cell BK138.out 3).trans rfl, (blk_cell BK138.out 4).trans rfl, (blk_cell BK138.out 5).trans rfl, (blk_cell BK138.out 6).trans rfl, (blk_cell BK138.out 7).trans rfl, (blk_cell BK138.out 8).trans rfl⟩ (fun hHeld => ?_); refine with_tabW tape_Told.tab5 tape_Told.bits5 (fun HT_ HW_ => ?_)
              generalize w10.drew = w11 at HO_3 BK138 HB hHeld ⊢
              refine pure_ (i := 0) (N := some 12) (v := ?_) (a' := ?_) #[true, false, false, false, false, false, false, false, false, false, false, false, false, false, false, false, false, false, false] rfl rfl (any_of HT_.out (by kernel_rfl)) (fun _ _ _ h => h) (Or.inl ⟨by rfl, ?_⟩) ?_ ?_
              rotate_left
              · intro w'
                go_simp
                with_reducible rfl
              rotate_left
              · simp only [Act.put, List.setIfInBounds_toArray, List.set_cons_zero, List.set_cons_succ, i64_w, i32_w]
                rfl
              refine pure_ (i := 1) (N := some 13) (v := ?_) (a' := ?_) #[true, true, false, false, false, false, false, false, false, false, false, false, false, false, false, false, false, false, false] rfl rfl (any_of HT_.out (by kernel_rfl)) (fun _ _ _ h => h) (Or.inl ⟨by rfl, ?_⟩) ?_ ?_
              rotate_left
              · intro w'
                go_simp
                with_reducible rfl
              rotate_left
              · simp only [Act.put, List.setIfInBounds_toArray, List.set_cons_zero, List.set_cons_succ, i64_w, i32_w]
                rfl
              refine pure_ (i := 4) (N := some 16) (v := ?_) (a' := ?_) #[true, true, false, false, true, false, false, false, false, false, false, false, false, false, false, false, false, false, false] rfl rfl (any_of HT_.out (by kernel_rfl)) (fun _ _ _ h => h) (Or.inl ⟨by rfl, ?_⟩) ?_ ?_
              rotate_left
              · intro w'
                go_simp
                with_reducible rfl
              rotate_left
              · simp only [Act.put, List.setIfInBounds_toArray, List.set_cons_zero, List.set_cons_succ, i64_w, i32_w]
                rfl
              refine pure_ (i := 6) (N := some 18) (v := ?_) (a' := ?_) #[true, true, false, false, true, false, true, false, false, false, false, false, false, false, false, false, false, false, false] rfl rfl (any_of HT_.out (by kernel_rfl)) (fun _ _ _ h => h) (Or.inl ⟨by rfl, ?_⟩) ?_ ?_
              rotate_left
              · intro w'
                go_simp
                with_reducible rfl
              rotate_left
              · simp only [Act.put, List.setIfInBounds_toArray, List.set_cons_zero, List.set_cons_succ, i64_w, i32_w]
                rfl
              refine pure_ (i := 8) (N := some 20) (v := ?_) (a' := ?_) #[true, true, false, false, true, false, true, false, true, false, false, false, false, false, false, false, false, false, false] rfl rfl (any_of HT_.out (by kernel_rfl)) (fun _ _ _ h => h) (Or.inl ⟨by rfl, ?_⟩) ?_ ?_
              rotate_left
              · intro w'
                go_simp
                with_reducible rfl
              rotate_left
              · simp only [Act.put, List.setIfInBounds_toArray, List.set_cons_zero, List.set_cons_succ, i64_w, i32_w]
                rfl
              refine pure_ (i := 10) (N := some 22) (v := ?_) (a' := ?_) #[true, true, false, false, true, false, true, false, true, false, true, false, false, false, false, false, false, false, false] rfl rfl (any_of HT_.out (by kernel_rfl)) (fun _ _ _ h => h) (Or.inl ⟨by rfl, ?_⟩) ?_ ?_
              rotate_left
              · intro w'
                go_simp
                with_reducible rfl
              rotate_left
              · simp only [Act.put, List.setIfInBounds_toArray, List.set_cons_zero, List.set_cons_succ, i64_w, i32_w]
                rfl
              refine pure_ (i := 12) (N := some 24) (v := ?_) (a' := ?_) #[true, true, false, false, true, false, true, false, true, false, true, false, true, false, false, false, false, false, false] rfl rfl (any_of HT_.out (by kernel_rfl)) (fun _ _ _ h => h) (Or.inl ⟨by rfl, ?_⟩) ?_ ?_
              rotate_left
              · intro w'
                go_simp
                with_reducible rfl
              rotate_left
              · simp only [Act.put, List.setIfInBounds_toArray, List.set_cons_zero, List.set_cons_succ, i64_w, i32_w]
                rfl
              refine take_ (i := 2) (N := some 14) (v := ?_) (a' := ?_) #[true, true, true, false, true, false, true, false, true, false, true, false, true, false, false, false, false, false, false] rfl rfl (take_ofW HT_.out HW_.out (by kernel_rfl)) (fun _ _ _ h => h) (Or.inl ⟨by rfl, ?_⟩) hHeld ?_ ?_
              rotate_left
              · rintro w' ⟨s0, s1, s2, s3, s4, s5, s6, s7, s8⟩
                go_simp
                with_reducible rfl
              rotate_left
              · simp only [Act.put, List.setIfInBounds_toArray, List.set_cons_zero, List.set_cons_succ, i64_w, i32_w]
                rfl
              refine pure_ (i := 3) (N := some 15) (v := ?_) (a' := ?_) #[true, true, true, true, true, false, true, false, true, false, true, false, true, false, false, false, false, false, false] rfl rfl (any_of HT_.out (by kernel_rfl)) (fun _ _ _ h => h) (Or.inl ⟨by rfl, ?_⟩) ?_ ?_
              rotate_left
              · intro w'
                go_simp
                with_reducible rfl
              rotate_left
              · simp only [Act.put, List.setIfInBounds_toArray, List.set_cons_zero, List.set_cons_succ, i64_w, i32_w]
                rfl
              refine take_ (i := 5) (N := some 17) (v := ?_) (a' := ?_) #[true, true, true, true, true, true, true, false, true, false, true, false, true, false, false, false, false, false, false] rfl rfl (take_ofW HT_.out HW_.out (by kernel_rfl)) (fun _ _ _ h => h) (Or.inl ⟨by rfl, ?_⟩) hHeld ?_ ?_
              rotate_left
              · rintro w' ⟨s0, s1, s2, s3, s4, s5, s6, s7, s8⟩
                go_simp
                with_reducible rfl
              rotate_left
              · simp only [Act.put, List.setIfInBounds_toArray, List.set_cons_zero, List.set_cons_succ, i64_w, i32_w]
                rfl
              refine take_ (i := 7) (N := some 19) (v := ?_) (a' := ?_) #[true, true, true, true, true, true, true, true, true, false, true, false, true, false, false, false, false, false, false] rfl rfl (take_ofW HT_.out HW_.out (by kernel_rfl)) (fun _ _ _ h => h) (Or.inl ⟨by rfl, ?_⟩) hHeld ?_ ?_
              rotate_left
              · rintro w' ⟨s0, s1, s2, s3, s4, s5, s6, s7, s8⟩
                go_simp
                with_reducible rfl
              rotate_left
              · simp only [Act.put, List.setIfInBounds_toArray, List.set_cons_zero, List.set_cons_succ, i64_w, i32_w]
                rfl
              refine take_ (i := 9) (N := some 21) (v := ?_) (a' := ?_) #[true, true, true, true, true, true, true, true, true, true, true, false, true, false, false, false, false, false, false] rfl rfl (take_ofW HT_.out HW_.out (by kernel_rfl)) (fun _ _ _ h => h) (Or.inl ⟨by rfl, ?_⟩) hHeld ?_ ?_
              rotate_left
              · rintro w' ⟨s0, s1, s2, s3, s4, s5, s6, s7, s8⟩
                go_simp
                with_reducible rfl
              rotate_left
              · simp only [Act.put, List.setIfInBounds_toArray, List.set_cons_zero, List.set_cons_succ, i64_w, i32_w]
                rfl
              refine take_ (i := 11) (N := some 23) (v := ?_) (a' := ?_) #[true, true, true, true, true, true, true, true, true, true, true, true, true, false, false, false, false, false, false] rfl rfl (take_ofW HT_.out HW_.out (by kernel_rfl)) (fun _ _ _ h => h) (Or.inl ⟨by rfl, ?_⟩) hHeld ?_ ?_
              rotate_left
              · rintro w' ⟨s0, s1, s2, s3, s4, s5, s6, s7, s8⟩
                go_simp
                with_reducible rfl
              rotate_left
              · simp only [Act.put, List.setIfInBounds_toArray, List.set_cons_zero, List.set_cons_succ, i64_w, i32_w]
                rfl
              refine take_ (i := 13) (N := some 25) (v := ?_) (a' := ?_) #[true, true, true, true, true, true, true, true, true, true, true, true, true, true, false, false, false, false, false] rfl rfl (take_ofW HT_.out HW_.out (by kernel_rfl)) (fun _ _ _ h => h) (Or.inl ⟨by rfl, ?_⟩) hHeld ?_ ?_
              rotate_left
              · rintro w' ⟨s0, s1, s2, s3, s4, s5, s6, s7, s8⟩
                go_simp
                with_reducible rfl
              rotate_left
              · simp only [Act.put, List.setIfInBounds_toArray, List.set_cons_zero, List.set_cons_succ, i64_w, i32_w]
                rfl
              refine one_ (i := 14) (N := some 26) #[true, true, true, true, true, true, true, true, true, true, true, true, true, true, true, false, false, false, false] rfl rfl (one_of HT_.out (by kernel_rfl)) (by decide) (fun K hK => ?_)
              refine Kd.R_lit_step Kd.bool _ 4 ?hg (N := 26) ?hd (xs := ([(rd_T98 l0 x8_1).f1, (rd_T98 l0 x8_1).f2, (rd_T98 l0 x8_1).f3, (rd_T98 l0 x8_1).f4, (rd_T98 l0 x8_1).f5] : List Bool)) (inner := [.bool ((rd_T98 l0 x8_1).f1), .bool ((rd_T98 l0 x8_1).f2), .bool ((rd_T98 l0 x8_1).f3), .bool ((rd_T98 l0 x8_1).f4), .bool ((rd_T98 l0 x8_1).f5)]) (ok := fun _ => True) (okp := fun _ => True) ?hr ?hp (fun _ hk => hk) trivial (Below.refl _ _) (Nat.le_refl _) (by simp) ?_; (case hd => rfl); (case hg => rfl); (case hr => first | (go_simp; done) | (go_simp; rfl)); (case hp => exact (Reps.one (show Kd.M Kd.bool _ _ _ ((rd_T98 l0 x8_1).f1) [.bool ((rd_T98 l0 x8_1).f1)] from rfl) (Reps.one (show Kd.M Kd.bool _ _ _ ((rd_T98 l0 x8_1).f2) [.bool ((rd_T98 l0 x8_1).f2)] from rfl) (Reps.one (show Kd.M Kd.bool _ _ _ ((rd_T98 l0 x8_1).f3) [.bool ((rd_T98 l0 x8_1).f3)] from rfl) (Reps.one (show Kd.M Kd.bool _ _ _ ((rd_T98 l0 x8_1).f4) [.bool ((rd_T98 l0 x8_1).f4)] from rfl) (Reps.one (show Kd.M Kd.bool _ _ _ ((rd_T98 l0 x8_1).f5) [.bool ((rd_T98 l0 x8_1).f5)] from rfl) (Reps.none _ _)))))))
              intro v140 w12 ho13 hb hg_ hnew_
              clear hg_ hnew_
              (first | rw [← Ny139.out] at ho13 | (simp only [Int.reduceToNat] at ho13; rw [← Ny139.out] at ho13))
              have n0_ := Aside0.mk (Kd.R_below (by (with_reducible repeat (first | apply Kd.R_alloc | apply Kd.R_drewN | apply Kd.R_drew)); exact HO_3.out) hb)
              have n1_ := Aside0.mk (Kd.R_lower ho13 (below_size (by repeat (first | (with_reducible first | exact HB.out | apply below_alloc | apply pw_below_drewN | apply below_drew1 | refine below_set ?_ GE138.out) | exact HB.out))))
              have n2_ := Aside0.mk (blk_below (g := gb138) (o := .cells #[.int .i64 ((rd_T98 l0 x8_1).f0), .bool ((rd_T98 l0 x8_1).f1), .bool ((rd_T98 l0 x8_1).f2), .bool ((rd_T98 l0 x8_1).f3), .bool ((rd_T98 l0 x8_1).f4), .bool ((rd_T98 l0 x8_1).f5), .int .i64 ((rd_T98 l0 x8_1).f6), .int .i64 ((rd_T98 l0 x8_1).f7), .int .i64 ((rd_T98 l0 x8_1).f8)] 98 (0, 0)) (by (with_reducible repeat (first | refine blk_drewN ?_ _ | refine blk_drew ?_ | refine blk_alloc ?_ _)); exact BK138.out) hb)
              have n3_ := Aside0.mk (below_step (by repeat (first | (with_reducible first | exact HB.out | apply below_alloc | apply pw_below_drewN | apply below_drew1 | refine below_set ?_ GE138.out) | exact HB.out)) hb)
              clear HO_3
              clear BK138
              clear HB
              have HO_3 := n0_
              have HO141 := n1_
              have BK138 := n2_
              have HB := n3_
              clear n0_ n1_ n2_ n3_
              clear hb ho13
              obtain ⟨Ao14, co14, eo14⟩ := Kd.R_slice HO141.out
              (first | subst eo14 | (injection eo14 with f1_ f2_ f3_; have f4_ := f1_.symm; have f5_ := f3_.symm; clear f1_ f2_ f3_; subst f4_; subst f5_))
              refine hK.out _ _ ⟨(blk_cell BK138.out 0).trans rfl, (blk_cell BK138.out 1).trans rfl, (blk_cell BK138.out 2).trans rfl, (blk_cell BK138.out 3).trans rfl, (blk_cell BK138.out 4).trans rfl, (blk_cell BK138.out 5).trans rfl, (blk_cell BK138.out 6).trans rfl, (blk_cell BK138.out 7).trans rfl, (blk_cell BK138.out 8).trans rfl⟩ (fun hHeld => ?_)
              clear hK K
              refine norm_ (a' := ?_) ?_ ?_
              rotate_left
              · show Act.put _ (some 26) _ = _
                simp only [Act.put, List.setIfInBounds_toArray, List.set_cons_zero, List.set_cons_succ, i64_w, i32_w]
                rfl
              refine one_ (i := 15) (N := some 27) #[true, true, true, true, true, true, true, true, true, true, true, true, true, true, true, true, false, false, false] rfl rfl (one_of HT_.out (by kernel_rfl)) (by decide) (fun K hK => ?_)
              refine goes_ Try.func53 (by kernel_rfl) rfl #[.slice Ao14 y139.length co14] (by rfl) rfl rfl (by (try simp only [List.map_toArray, List.map_cons, List.map_nil]); first | done | rfl | (simp only [List.length_drop, List.length_take]; rfl)) ?_
              with_reducible refine (tape_flags.calls k1 _ _ y139 t142 _ ?side1 ?side2 A5.out).mono ?_
              (case side1 => repeat (first | exact (Kd.R_reads' HO141.out).2.2 | (with_reducible refine Kd.C_alloc ?_ _) | (with_reducible refine Kd.C_drewN ?_ _) | (with_reducible refine Kd.C_drew ?_)))
              (case side2 => exact (Kd.R_reads' HO141.out).2.1)
              rintro e w' ⟨rfl, ⟨nd, rfl⟩⟩
              refine ⟨_, rfl, ?_⟩
              refine hK.out _ _ ⟨(blk_cell BK138.out 0).trans rfl, (blk_cell BK138.out 1).trans rfl, (blk_cell BK138.out 2).trans rfl, (blk_cell BK138.out 3).trans rfl, (blk_cell BK138.out 4).trans rfl, (blk_cell BK138.out 5).trans rfl, (blk_cell BK138.out 6).trans rfl, (blk_cell BK138.out 7).trans rfl, (blk_cell BK138.out 8).trans rfl⟩ (fun hHeld => ?_)
              clear hK K
              refine norm_ (a' := ?_) ?_ ?_
              rotate_left
              · show Act.put _ (some 27) _ = _
                simp only [Act.put, List.setIfInBounds_toArray, List.set_cons_zero, List.set_cons_succ, i64_w, i32_w]
                rfl
              refine one_ (i := 16) (N := some 28) #[true, true, true, true, true, true, true, true, true, true, true, true, true, true, true, true, true, false, false] rfl rfl (one_of HT_.out (by kernel_rfl)) (by decide) (fun K hK => ?_)
              refine Kd.R_lit_step (Kd.int .u8) _ 5 ?hg (N := 28) ?hd (xs := ([((rd_T98 l0 x8_1).f0) % 256, t142, 0, 0] : List Int)) (inner := [.int .u8 (((rd_T98 l0 x8_1).f0) % 256), .int .u8 t142, .int .u8 0, .int .u8 0]) (ok := fun _ => True) (okp := fun _ => True) ?hr ?hp (fun _ hk => hk) trivial (Below.refl _ _) (Nat.le_refl _) (by simp) ?_; (case hd => rfl); (case hg => rfl); (case hr => first | (go_simp; done) | (go_simp; rfl)); (case hp => exact (Reps.one (show Kd.M (Kd.int .u8) _ _ _ (((rd_T98 l0 x8_1).f0) % 256) [.int .u8 (((rd_T98 l0 x8_1).f0) % 256)] from rfl) (Reps.one (show Kd.M (Kd.int .u8) _ _ _ t142 [.int .u8 t142] from rfl) (Reps.one (show Kd.M (Kd.int .u8) _ _ _ 0 [.int .u8 0] from rfl) (Reps.one (show Kd.M (Kd.int .u8) _ _ _ 0 [.int .u8 0] from rfl) (Reps.none _ _))))))
              intro v144 w15 ho16 hb hg_ hnew_
              clear hg_ hnew_
              (first | rw [← Ny143.out] at ho16 | (simp only [Int.reduceToNat] at ho16; rw [← Ny143.out] at ho16))
              have n0_ := Aside0.mk (Kd.R_elder' (by (with_reducible repeat (first | apply Kd.R_alloc | apply Kd.R_drewN | apply Kd.R_drew)); exact HO_3.out) (Kd.R_base ho16) hb)
              have n1_ := Aside0.mk (Kd.R_below (by (with_reducible repeat (first | apply Kd.R_alloc | apply Kd.R_drewN | apply Kd.R_drew)); exact HO141.out) hb)
              have n2_ := Aside0.mk (Kd.R_lower (Kd.R_new' ho16 (Kd.R_lt (by (with_reducible repeat (first | apply Kd.R_alloc | apply Kd.R_drewN | apply Kd.R_drew)); exact HO_3.out))) (below_size (by repeat (first | (with_reducible first | exact HB.out | apply below_alloc | apply pw_below_drewN | apply below_drew1 | refine below_set ?_ GE138.out) | exact HB.out))))
              have n3_ := Aside0.mk (blk_below (g := gb138) (o := .cells #[.int .i64 ((rd_T98 l0 x8_1).f0), .bool ((rd_T98 l0 x8_1).f1), .bool ((rd_T98 l0 x8_1).f2), .bool ((rd_T98 l0 x8_1).f3), .bool ((rd_T98 l0 x8_1).f4), .bool ((rd_T98 l0 x8_1).f5), .int .i64 ((rd_T98 l0 x8_1).f6), .int .i64 ((rd_T98 l0 x8_1).f7), .int .i64 ((rd_T98 l0 x8_1).f8)] 98 (0, 0)) (by (with_reducible repeat (first | refine blk_drewN ?_ _ | refine blk_drew ?_ | refine blk_alloc ?_ _)); exact BK138.out) hb)
              have n4_ := Aside0.mk (below_step (by repeat (first | (with_reducible first | exact HB.out | apply below_alloc | apply pw_below_drewN | apply below_drew1 | refine below_set ?_ GE138.out) | exact HB.out)) hb)
              clear HO_3
              clear HO141
              clear BK138
              clear HB
              have HO_3 := n0_
              have HO141 := n1_
              have HO145 := n2_
              have BK138 := n3_
              have HB := n4_
              clear n0_ n1_ n2_ n3_ n4_
              clear hb ho16
              obtain ⟨Ao18, co18, eo18⟩ := Kd.R_slice HO145.out
              (first | subst eo18 | (injection eo18 with f1_ f2_ f3_; have f4_ := f1_.symm; have f5_ := f3_.symm; clear f1_ f2_ f3_; subst f4_; subst f5_))
              refine hK.out _ _ ⟨(blk_cell BK138.out 0).trans rfl, (blk_cell BK138.out 1).trans rfl, (blk_cell BK138.out 2).trans rfl, (blk_cell BK138.out 3).trans rfl, (blk_cell BK138.out 4).trans rfl, (blk_cell BK138.out 5).trans rfl, (blk_cell BK138.out 6).trans rfl, (blk_cell BK138.out 7).trans rfl, (blk_cell BK138.out 8).trans rfl⟩ (fun hHeld => ?_)
              clear hK K
              refine norm_ (a' := ?_) ?_ ?_
              rotate_left
              · show Act.put _ (some 28) _ = _
                simp only [Act.put, List.setIfInBounds_toArray, List.set_cons_zero, List.set_cons_succ, i64_w, i32_w]
                rfl
              refine one_ (i := 17) (N := some 29) #[true, true, true, true, true, true, true, true, true, true, true, true, true, true, true, true, true, true, false] rfl rfl (one_of HT_.out (by kernel_rfl)) (by decide) (fun K hK => ?_)
              refine Kd.R_append_rows_step (Kd.int .u8) (w0 := w) w.heap.size (by rfl) (.tmp 12) (.tmp 28) 68 5 (.int .u8 0) 1 rfl Try.underlying68 info5 rfl (by decide) (by omega) u3 x3_1 y143 _ _ _ (fun k_ => some k_ ≠ (.slice Ao18 y143.length co18 : Value).ownBlock) (fun _ => False) rfl rfl ?aO ?aR (fun _ _ h => h) (fun _ h => h.elim) ?aF ?aB ?aS ?aL ?_
              (case aR => repeat (first | exact (Kd.R_reads' HO145.out).2.2 | (with_reducible refine Kd.C_alloc ?_ _) | (with_reducible refine Kd.C_drewN ?_ _) | (with_reducible refine Kd.C_drew ?_)))
              (case aB => exact (by repeat (first | (with_reducible first | exact HB.out | apply below_alloc | apply pw_below_drewN | apply below_drew1 | refine below_set ?_ GE138.out) | exact HB.out)))
              (case aF => exact (fun k_ hk => Kd.fresh' (Kd.R_lt (by (with_reducible repeat (first | apply Kd.R_alloc | apply Kd.R_drewN | apply Kd.R_drew)); exact HO145.out)) k_ hk))
              (case aO => exact (by (with_reducible repeat (first | apply Kd.R_alloc | apply Kd.R_drewN | apply Kd.R_drew)); exact Kd.R_mono HO_3.out (fun _ hk => hk.2)))
              (case aS => exact (below_size (by repeat (first | (with_reducible first | exact HB.out | apply below_alloc | apply pw_below_drewN | apply below_drew1 | refine below_set ?_ GE138.out) | exact HB.out))))
              (case aL => have := LMc6.out; omega)
              intro v147 w17 ho hb hg hat
              rw [← Ny146.out] at ho
              have n0_ := Aside0.mk (blk_grown (g := gb138) (o := .cells #[.int .i64 ((rd_T98 l0 x8_1).f0), .bool ((rd_T98 l0 x8_1).f1), .bool ((rd_T98 l0 x8_1).f2), .bool ((rd_T98 l0 x8_1).f3), .bool ((rd_T98 l0 x8_1).f4), .bool ((rd_T98 l0 x8_1).f5), .int .i64 ((rd_T98 l0 x8_1).f6), .int .i64 ((rd_T98 l0 x8_1).f7), .int .i64 ((rd_T98 l0 x8_1).f8)] 98 (0, 0)) (by (with_reducible repeat (first | refine blk_drewN ?_ _ | refine blk_drew ?_ | refine blk_alloc ?_ _)); exact BK138.out) hg (Kd.R_ne HO_3.out BK138.out (by decide)))
              have n1_ := Aside0.mk (Kd.R_over' (by (with_reducible repeat (first | apply Kd.R_alloc | apply Kd.R_drewN | apply Kd.R_drew)); exact HO141.out) (Kd.R_typed (by (with_reducible repeat (first | apply Kd.R_alloc | apply Kd.R_drewN | apply Kd.R_drew)); exact HO_3.out)) (by decide) hg)
              have n2_ := Aside0.mk (Kd.R_after (ok := (fun _ => True)) (by (with_reducible repeat (first | apply Kd.R_alloc | apply Kd.R_drewN | apply Kd.R_drew)); exact HO145.out) hg hat)
              have n3_ := Aside0.mk (hb)
              have n4_ := Aside0.mk (ho)
              clear BK138
              clear HO141
              clear HO145
              clear HB
              clear HO_3
              have BK138 := n0_
              have HO141 := n1_
              have HO145 := n2_
              have HB := n3_
              have HO148 := n4_
              clear n0_ n1_ n2_ n3_ n4_
              clear ho hb hg hat
              refine hK.out _ _ ⟨(blk_cell BK138.out 0).trans rfl, (blk_cell BK138.out 1).trans rfl, (blk_cell BK138.out 2).trans rfl, (blk_cell BK138.out 3).trans rfl, (blk_cell BK138.out 4).trans rfl, (blk_cell BK138.out 5).trans rfl, (blk_cell BK138.out 6).trans rfl, (blk_cell BK138.out 7).trans rfl, (blk_cell BK138.out 8).trans rfl⟩ (fun hHeld => ?_)
              clear hK K
              refine norm_ (a' := ?_) ?_ ?_
              rotate_left
              · show Act.put _ (some 29) _ = _
                simp only [Act.put, List.setIfInBounds_toArray, List.set_cons_zero, List.set_cons_succ, i64_w, i32_w]
                rfl
              refine pure_ (i := 18) (N := some 3) (v := ?_) (a' := ?_) #[true, true, true, true, true, true, true, true, true, true, true, true, true, true, true, true, true, true, true] rfl rfl (any_of HT_.out (by kernel_rfl)) (fun _ _ _ h => h) (Or.inl ⟨by rfl, ?_⟩) ?_ ?_
              rotate_left
              · intro w'
                go_simp
                with_reducible rfl
              rotate_left
              · simp only [Act.put, List.setIfInBounds_toArray, List.set_cons_zero, List.set_cons_succ, i64_w, i32_w]
                rfl
              refine done_ (done_of HT_.out (by kernel_rfl)) ?_
              have hcz19_0 : w17.cell? ⟨gb138, 0, none⟩ = some (.int .i64 ((rd_T98 l0 x8_1).f0)) := (blk_cell BK138.out 0).trans rfl
              have hcz19_1 : w17.cell? ⟨gb138, 1, none⟩ = some (.bool ((rd_T98 l0 x8_1).f1)) := (blk_cell BK138.out 1).trans rfl
              have hcz19_2 : w17.cell? ⟨gb138, 2, none⟩ = some (.bool ((rd_T98 l0 x8_1).f2)) := (blk_cell BK138.out 2).trans rfl
              have hcz19_3 : w17.cell? ⟨gb138, 3, none⟩ = some (.bool ((rd_T98 l0 x8_1).f3)) := (blk_cell BK138.out 3).trans rfl
              have hcz19_4 : w17.cell? ⟨gb138, 4, none⟩ = some (.bool ((rd_T98 l0 x8_1).f4)) := (blk_cell BK138.out 4).trans rfl
              have hcz19_5 : w17.cell? ⟨gb138, 5, none⟩ = some (.bool ((rd_T98 l0 x8_1).f5)) := (blk_cell BK138.out 5).trans rfl
              have hcz19_6 : w17.cell? ⟨gb138, 6, none⟩ = some (.int .i64 ((rd_T98 l0 x8_1).f6)) := (blk_cell BK138.out 6).trans rfl
              have hcz19_7 : w17.cell? ⟨gb138, 7, none⟩ = some (.int .i64 ((rd_T98 l0 x8_1).f7)) := (blk_cell BK138.out 7).trans rfl
              have hcz19_8 : w17.cell? ⟨gb138, 8, none⟩ = some (.int .i64 ((rd_T98 l0 x8_1).f8)) := (blk_cell BK138.out 8).trans rfl
              have hfz19_0 := blk_frozen BK138.out 0
              have hfz19_1 := blk_frozen BK138.out 1
              have hfz19_2 := blk_frozen BK138.out 2
              have hfz19_3 := blk_frozen BK138.out 3
              have hfz19_4 := blk_frozen BK138.out 4
              have hfz19_5 := blk_frozen BK138.out 5
              have hfz19_6 := blk_frozen BK138.out 6
              have hfz19_7 := blk_frozen BK138.out 7
              have hfz19_8 := blk_frozen BK138.out 8
              try go_wp2_with (first | ((with_reducible refine gate_dst (N := 37) rfl ?_); refine Kd.R_lit (Kd.int .i64) _ 2 ?hg (N := 37) ?hd (xs := ([(rd_T98 l0 x8_1).f6, (rd_T98 l0 x8_1).f7, (rd_T98 l0 x8_1).f8] : List Int)) (inner := [.int .i64 ((rd_T98 l0 x8_1).f6), .int .i64 ((rd_T98 l0 x8_1).f7), .int .i64 ((rd_T98 l0 x8_1).f8)]) (ok := fun _ => True) (okp := fun _ => True) ?hr ?hp (fun _ hk => hk) trivial (Below.refl _ _) (Nat.le_refl _) (by simp) ?_; (case hd => rfl); (case hg => rfl); (case hr => first | (go_simp; done) | (go_simp; rfl)); (case hp => exact (Reps.one (show Kd.M (Kd.int .i64) _ _ _ ((rd_T98 l0 x8_1).f6) [.int .i64 ((rd_T98 l0 x8_1).f6)] from rfl) (Reps.one (show Kd.M (Kd.int .i64) _ _ _ ((rd_T98 l0 x8_1).f7) [.int .i64 ((rd_T98 l0 x8_1).f7)] from rfl) (Reps.one (show Kd.M (Kd.int .i64) _ _ _ ((rd_T98 l0 x8_1).f8) [.int .i64 ((rd_T98 l0 x8_1).f8)] from rfl) (Reps.none _ _))))); intro v150 w20 ho21 hb hg_ hnew_; clear hg_ hnew_; (first | rw [← Ny149.out] at ho21 | (simp only [Int.reduceToNat] at ho21; rw [← Ny149.out] at ho21)); have n0_ := Aside0.mk (Kd.R_below (by (with_reducible repeat (first | apply Kd.R_alloc | apply Kd.R_drewN | apply Kd.R_drew)); exact HO141.out) hb); have n1_ := Aside0.mk (Kd.R_below (by (with_reducible repeat (first | apply Kd.R_alloc | apply Kd.R_drewN | apply Kd.R_drew)); exact HO145.out) hb); have n2_ := Aside0.mk (Kd.R_below (by (with_reducible repeat (first | apply Kd.R_alloc | apply Kd.R_drewN | apply Kd.R_drew)); exact HO148.out) hb); have n3_ := Aside0.mk (Kd.R_lower ho21 (below_size (by repeat (first | (with_reducible first | exact HB.out | apply below_alloc | apply pw_below_drewN | apply below_drew1 | refine below_set ?_ GE138.out) | exact HB.out)))); have n4_ := Aside0.mk (blk_below (g := gb138) (o := .cells #[.int .i64 ((rd_T98 l0 x8_1).f0), .bool ((rd_T98 l0 x8_1).f1), .bool ((rd_T98 l0 x8_1).f2), .bool ((rd_T98 l0 x8_1).f3), .bool ((rd_T98 l0 x8_1).f4), .bool ((rd_T98 l0 x8_1).f5), .int .i64 ((rd_T98 l0 x8_1).f6), .int .i64 ((rd_T98 l0 x8_1).f7), .int .i64 ((rd_T98 l0 x8_1).f8)] 98 (0, 0)) (by (with_reducible repeat (first | refine blk_drewN ?_ _ | refine blk_drew ?_ | refine blk_alloc ?_ _)); exact BK138.out) hb); have n5_ := Aside0.mk (below_step (by repeat (first | (with_reducible first | exact HB.out | apply below_alloc | apply pw_below_drewN | apply below_drew1 | refine below_set ?_ GE138.out) | exact HB.out)) hb); clear HO141; clear HO145; clear HO148; clear BK138; clear HB; have HO141 := n0_; have HO145 := n1_; have HO148 := n2_; have HO151 := n3_; have BK138 := n4_; have HB := n5_; clear n0_ n1_ n2_ n3_ n4_ n5_; clear hb ho21; obtain ⟨Ao22, co22, eo22⟩ := Kd.R_slice HO148.out; subst eo22; obtain ⟨Ao23, co23, eo23⟩ := Kd.R_slice HO151.out; subst eo23) | ((with_reducible refine gate_callee (f := 54) rfl ?_); refine goesL_ (some 38) rfl rfl Try.func54 (by kernel_rfl) rfl #[.slice Ao22 y146.length co22, .slice Ao23 y149.length co23] rfl (by (try simp only [List.map_toArray, List.map_cons, List.map_nil]); first | done | rfl | (simp only [List.length_drop, List.length_take]; rfl)) ?_; (with_reducible refine (tape_numbers.calls k1 (fun k_ => some k_ = (.slice Ao22 y146.length co22 : Value).ownBlock) (.slice Ao22 y146.length co22) y146 _ _ y149 t152 w _ ?side1 ?side2 ?side3 ?side4 A7.out).mono ?_); (case side1 => repeat (first | (with_reducible first | exact HB.out | apply below_alloc | apply pw_below_drewN | apply below_drew1 | refine below_set ?_ GE138.out) | exact HB.out)); (case side2 => exact Kd.R_tight rfl HO148.out); (case side3 => exact Kd.C_kept_own ((Kd.R_apart' HO151.out (Kd.R_typed HO148.out) (by decide))) (fun k_ hk_ hs_ => (hk_.2) hs_)); (case side4 => exact (Kd.R_reads' HO151.out).2.1); rintro e w24 ⟨v153, rfl, ho0, hb, hkp⟩; refine ⟨_, rfl, ?_⟩; have n0_ := Aside0.mk (blk_kept (by (with_reducible repeat (first | refine blk_drewN ?_ _ | refine blk_drew ?_ | refine blk_alloc ?_ _)); exact BK138.out) hkp (fun hs_ => (fun e_ => (Kd.R_ne HO148.out BK138.out (by decide)) e_) hs_)); have n1_ := Aside0.mk (Kd.R_mono (ok' := fun k_ => True) (Kd.R_keptB ((Kd.R_apart' HO141.out (Kd.R_typed HO148.out) (by decide))) hkp (fun k_ hk_ hs_ => (hk_.2) hs_)) (fun k_ hk_ => trivial)); have n2_ := Aside0.mk (Kd.R_mono (ok' := fun k_ => some k_ ≠ (v153 : Value).ownBlock) (Kd.R_keptB (HO145.out) hkp (fun k_ hk_ hs_ => (hk_.2) hs_)) (fun k_ hk_ => fun e_ => Or.elim (ho0.1 k_ e_.symm) (fun hs_ => hk_.2.1 hs_) (fun hn_ => Nat.not_le.2 hk_.2.2 hn_))); have n3_ := Aside0.mk (Kd.R_mono (ok' := fun k_ => True) (Kd.R_keptB ((Kd.R_apart' HO151.out (Kd.R_typed HO148.out) (by decide))) hkp (fun k_ hk_ hs_ => (hk_.2) hs_)) (fun k_ hk_ => trivial)); have n4_ := Aside0.mk (Kd.R_mono (ok' := fun k_ => some k_ ≠ (.slice Ao18 y143.length co18 : Value).ownBlock) ho0 (fun k_ hk_ => Or.elim hk_ (fun hs_ => fun e_ => (((HO145.out).1 k_ e_.symm).2) hs_) (fun hn_ => (Kd.fresh' (Kd.R_lt (by (with_reducible repeat (first | apply Kd.R_alloc | apply Kd.R_drewN | apply Kd.R_drew)); exact HO145.out)) k_ hn_)))); have n5_ := Aside0.mk (hb); clear BK138; clear HO141; clear HO145; clear HO151; clear HB; clear HO148; have BK138 := n0_; have HO141 := n1_; have HO145 := n2_; have HO151 := n3_; have HO154 := n4_; have HB := n5_; clear n0_ n1_ n2_ n3_ n4_ n5_; (try clear hb); (try clear hkp); (try clear ho0)))
              go_roundg k1
              case measure => have := HK1.out; omega
              case rel => exact ⟨(t152), (wrap64 (x8_1 + 1)), (by first | rfl | (simp; done) | (simp [*]; done)), H', ⟨by have := HK1.out; omega⟩, ⟨by (with_reducible repeat (first | apply Kd.R_alloc | apply Kd.R_drewN | apply Kd.R_drew)); exact Kd.R_mono HO154.out (fun _ hk => trivial)⟩, ⟨by repeat (first | (with_reducible first | exact HB.out | apply below_alloc | apply pw_below_drewN | apply below_drew1 | refine below_set ?_ GE138.out) | exact HB.out)⟩⟩
            · rw [if_neg c6] at H
              exact absurd H (by simp)
          · rw [if_neg c4] at H
            exact absurd H (by simp)
        · rw [if_neg c3] at H
          exact absurd H (by simp)
      · rw [if_neg c2] at H
        have c2b0 : decide (x8_1 < (l0.length : Int)) = false := decide_eq_false c2
        clear c2
        obtain rfl := Option.some.inj H
        go_wp2
        go_ret
        exact ⟨_, by first | rfl | (simp [errW_none, errW_some] <;> rfl) | (simp [*, errW_none, errW_some] <;> rfl), by (with_reducible repeat (first | apply Kd.R_alloc | apply Kd.R_drewN | apply Kd.R_drew)); exact HO_3.out, by repeat (first | (with_reducible first | exact HB.out | apply below_alloc | apply pw_below_drewN | apply below_drew1) | exact HB.out)⟩

/-! ### aneroidref21_bit: function 55 -/
end Go.Proofs.Ytoknlaknffpigaa.PTapeTold
