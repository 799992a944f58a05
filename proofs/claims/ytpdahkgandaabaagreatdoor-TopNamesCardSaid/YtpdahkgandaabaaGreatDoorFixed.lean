/- The chapter's example (layer 20), and the names of the top: the walks of Fixed and of TopNames. -/
import Derived.Test.YtpdahkgandaabaaGreatDoorStep
import Derived.Test.YtpdahkgandaabaaGreatDoorDflt
namespace Go.Proofs.YtpdahkgandaabaaGreatDoor.Ch
open Go.RowKit Go.Proofs.YtpdahkgandaabaaGreatDoorW.PrintWords Go.Proofs.YtpdahkgandaabaaGreatDoorW.PrintLast Go.Proofs.YtpdahkgandaabaaGreatDoorW.PrintMore Go.Proofs.YtpdahkgandaabaaGreatDoor.PTopNames Go.Proofs.YtpdahkgandaabaaGreatDoor.Al
set_option linter.unusedVariables false
set_option linter.unusedSimpArgs false

theorem d_last : inT dflt 0 2048 = 0 := by decide +kernel
theorem d_run : inRun dflt 0 2048 = 0 := by decide +kernel
theorem d_clip : clipped dflt 2048 = false := by decide +kernel
theorem d_lost : inLost dflt 0 2048 = false := by decide +kernel
theorem d_good : good 405300 = true := by decide +kernel
theorem d_alt : alt 405300 = 0 := by decide +kernel
theorem d_mean : mean_Of.f 20 (List.replicate 15 405300 ++ [405300]) = some (405300, 0) := by decide +kernel
def FIN : Array Value := toldV 1 true true false false false 0 0 0
def ZED : Array Value := toldV 0 false false false false false 0 0 0
theorem rep_snoc (k : Nat) (x : Int) : List.replicate k x ++ [x] = List.replicate (k + 1) x := (List.replicate_succ' (n := k) (a := x)).symm
/-- What the block of what is told holds behind k ticks. -/
def TB (k : Nat) : Array Value := if k = 16 then FIN else ZED
theorem tb_no {k : Nat} (h : k ≠ 16) : TB k = ZED := if_neg h
theorem Chan.told2 {w0 W : World} {g f gr : Nat} {s : Gs} {c : Cf} {v : Value} {mode since last run band noise rough count : Int} {known : Bool} {l : List Int} (h : Chan w0 W g f gr s c v mode since last run band noise rough count known l) {b : Nat}
    (hb : W.heap[b]? = some (.cells ZED 39 (0, 0))) (b0 : w0.heap.size ≤ b) (m : Int) (va ac re he gr' : Bool) (al sp bi : Int) :
    (((((((((W.setCell ⟨b, 0, none⟩ (.int .i64 m)).setCell ⟨b, 1, none⟩ (.bool va)).setCell ⟨b, 2, none⟩ (.bool ac)).setCell ⟨b, 3, none⟩ (.bool re)).setCell ⟨b, 4, none⟩ (.bool he)).setCell ⟨b, 5, none⟩ (.bool gr')).setCell ⟨b, 6, none⟩ (.int .i64 al)).setCell ⟨b, 7, none⟩ (.int .i64 sp)).setCell ⟨b, 8, none⟩ (.int .i64 bi)).heap[b]? = some (.cells (toldV m va ac re he gr' al sp bi) 39 (0, 0)) ∧ Chan w0 (((((((((W.setCell ⟨b, 0, none⟩ (.int .i64 m)).setCell ⟨b, 1, none⟩ (.bool va)).setCell ⟨b, 2, none⟩ (.bool ac)).setCell ⟨b, 3, none⟩ (.bool re)).setCell ⟨b, 4, none⟩ (.bool he)).setCell ⟨b, 5, none⟩ (.bool gr')).setCell ⟨b, 6, none⟩ (.int .i64 al)).setCell ⟨b, 7, none⟩ (.int .i64 sp)).setCell ⟨b, 8, none⟩ (.int .i64 bi)) g f gr s c v mode since last run band noise rough count known l := by
  have := h.told (w := w0) (S := fun _ => True) hb b0 b0 ⟨h.hb.size, fun _ _ h => absurd trivial h⟩ m va ac re he gr' al sp bi
  exact ⟨this.1, this.2.1⟩
/-- What the channel of the example is behind k ticks. -/
def Ex (w0 W : World) (g f gr : Nat) (k : Nat) : Prop := ∃ v, Chan w0 W g f gr ⟨0, 0, 0, 0, 0, 0, 0, 0, 0⟩ dflt v 0 0 0 0 (mx dflt.band 0) dflt.r dflt.rg 0 false (List.replicate k 405300)
set_option maxRecDepth 100000 in
set_option maxHeartbeats 4000000 in
theorem fixed_any (w : World) (hT : Tab w) : Calls Tryz.prog 6 #[] w fun e w' => e = .returned (.bool true) ∧ Below w.heap.size w w' := by
  have HT := Aside0.mk hT
  clear hT
  have hnil : ∀ (g : Nat) (w : World), (binOp .eql 33 (.pointer (some ⟨g, 0, none⟩)) (.pointer none)).run Tryz.prog w = .ok (.bool false) w := fun _ _ => by first | rfl | (simp [go_sem]; done)
  have heq : ∀ w, (binOp .eql 39 (.agg #[.int .i64 1, .bool true, .bool true, .bool false, .bool false, .bool false, .int .i64 0, .int .i64 0, .int .i64 0]) (.agg #[.int .i64 1, .bool true, .bool true, .bool false, .bool false, .bool false, .int .i64 0, .int .i64 0, .int .i64 0])).run Tryz.prog w = .ok (.bool true) w := fun _ => by kernel_rfl
  go_enter Tryz.func6, Tryz.ntmps6
  go_wp2_with fail
  refine (default_any w).mono ?_
  rintro e w1 ⟨rfl, hb⟩
  have HB := Aside0.mk hb
  clear hb
  go_wp2_with fail
  refine (new_any w1 dflt dflt_ok).mono ?_
  rintro e w2 ⟨g, f, gr, rfl, hg, hf, hi, g0, f0, hb⟩
  have HG := Aside0.mk (Nat.le_trans HB.out.size g0)
  have HE := Aside0.mk (show Ex w w2 g f gr 0 from ⟨.slice none 0 0, hg, hf, ⟨hi.1, Nat.le_trans HB.out.size hi.2⟩, Kd.R_nil _ _ _ _ _, Nat.le_trans HB.out.size g0, Nat.le_trans HB.out.size f0, below_step HB.out hb⟩)
  have HB2 := HE
  clear hg hf hi g0 f0 hb HB
  go_upto_region 5 with fail
  have HX := Aside0.mk (blk_new w2 (.cells #[.int .i64 0, .bool false, .bool false, .bool false, .bool false, .bool false, .int .i64 0, .int .i64 0, .int .i64 0] 39))
  replace HE := Aside0.mk (show Ex w (w2.alloc (.cells #[.int .i64 0, .bool false, .bool false, .bool false, .bool false, .bool false, .int .i64 0, .int .i64 0, .int .i64 0] 39)) g f gr 0 from (by obtain ⟨v, h⟩ := HE.out; exact ⟨v, h.alloc _⟩))
  have HG0 := Aside0.mk (show w.heap.size ≤ w2.heap.size from (by obtain ⟨v, h⟩ := HB2.out; exact h.hb.size))
  generalize w2.alloc (.cells #[.int .i64 0, .bool false, .bool false, .bool false, .bool false, .bool false, .int .i64 0, .int .i64 0, .int .i64 0] 39) = w3 at HX HE ⊢
  generalize w2.heap.size = b at HX HG0 ⊢
  clear HB2
  go_wp2_with fail
  go_loopw [15] (fun v15 wr => ∃ k : Nat, k ≤ 16 ∧ v15 = .int .i64 k ∧ Aside0 (k < 16 → Ex w wr g f gr k) ∧ Aside0 (wr.heap[b]? = some (.cells (TB k) 39 (0, 0))) ∧ Aside0 (Below w.heap.size w wr)) (fun v15 _ => 17 - (intOf v15).toNat)
  case atStart => exact ⟨0, by omega, rfl, ⟨fun _ => HE.out⟩, ⟨HX.out⟩, ⟨(by obtain ⟨v, h⟩ := HE.out; exact h.hb)⟩⟩
  case round =>
    clear HE HX
    obtain ⟨k, hk, rfl, HE, HX, HB⟩ := hrel
    by_cases hlt : k < 15
    · have q0 : decide ((k : Int) < 16) = true := decide_eq_true (by omega)
      replace HX := Aside0.mk ((tb_no (by omega : k ≠ 16)) ▸ HX.out)
      obtain ⟨v, hC⟩ := HE.out (by omega)
      have HC := Aside0.mk hC
      clear hC HE HB
      go_wp2_with fail
      refine (step_more w wr g f gr ⟨0, 0, 0, 0, 0, 0, 0, 0, 0⟩ dflt v 0 0 0 0 (mx dflt.band 0) dflt.r dflt.rg 0 false (List.replicate k 405300) 2048 405300 false HC.out dflt_ok (.inl rfl) d_good d_lost (by rw [List.length_replicate]; omega)).mono ?_
      rintro e wx ⟨v', rfl, hC, hk⟩
      have hX := blk_kept HX.out hk (fun hS => by rcases hS with e | e | e | e; exact blk_ne HX.out HC.out.hg (by decide) e; exact blk_ne HX.out HC.out.hf (by decide) e; exact (HC.out.hi.ne_blk HX.out (by decide)) e.symm; exact (Kd.R_ne HC.out.hr HX.out (by decide)) e.symm)
      rw [d_last, d_run, rep_snoc] at hC
      have HX2 := Aside0.mk hX
      have HC2 := Aside0.mk hC
      clear hX hC hk
      rw [d_clip]
      unfold toldV
      have y0 : wx.cell? ⟨b, 0, none⟩ = some (.int .i64 0) := (blk_cell HX2.out 0).trans rfl
      have f0 := blk_frozen HX2.out 0
      have y1 : wx.cell? ⟨b, 1, none⟩ = some (.bool false) := (blk_cell HX2.out 1).trans rfl
      have f1 := blk_frozen HX2.out 1
      have y2 : wx.cell? ⟨b, 2, none⟩ = some (.bool false) := (blk_cell HX2.out 2).trans rfl
      have f2 := blk_frozen HX2.out 2
      have y3 : wx.cell? ⟨b, 3, none⟩ = some (.bool false) := (blk_cell HX2.out 3).trans rfl
      have f3 := blk_frozen HX2.out 3
      have y4 : wx.cell? ⟨b, 4, none⟩ = some (.bool false) := (blk_cell HX2.out 4).trans rfl
      have f4 := blk_frozen HX2.out 4
      have y5 : wx.cell? ⟨b, 5, none⟩ = some (.bool false) := (blk_cell HX2.out 5).trans rfl
      have f5 := blk_frozen HX2.out 5
      have y6 : wx.cell? ⟨b, 6, none⟩ = some (.int .i64 0) := (blk_cell HX2.out 6).trans rfl
      have f6 := blk_frozen HX2.out 6
      have y7 : wx.cell? ⟨b, 7, none⟩ = some (.int .i64 0) := (blk_cell HX2.out 7).trans rfl
      have f7 := blk_frozen HX2.out 7
      have y8 : wx.cell? ⟨b, 8, none⟩ = some (.int .i64 0) := (blk_cell HX2.out 8).trans rfl
      have f8 := blk_frozen HX2.out 8
      obtain ⟨q4, qh⟩ := HC2.out.told2 HX2.out HG0.out 0 false false false false false 0 0 0
      go_wp2_with fail
      generalize ((((((((wx.setCell ⟨b, 0, none⟩ (.int .i64 0)).setCell ⟨b, 1, none⟩ (.bool false)).setCell ⟨b, 2, none⟩ (.bool false)).setCell ⟨b, 3, none⟩ (.bool false)).setCell ⟨b, 4, none⟩ (.bool false)).setCell ⟨b, 5, none⟩ (.bool false)).setCell ⟨b, 6, none⟩ (.int .i64 0)).setCell ⟨b, 7, none⟩ (.int .i64 0)).setCell ⟨b, 8, none⟩ (.int .i64 0) = wz at q4 qh ⊢
      go_roundw
      case rel => exact ⟨k + 1, by omega, rfl, ⟨fun _ => ⟨v', qh⟩⟩, ⟨(tb_no (by omega : k + 1 ≠ 16)) ▸ q4⟩, ⟨qh.hb⟩⟩
      case measure => simp [intOf]; omega
    · by_cases h15 : k = 15
      · subst h15
        have hc15 : ((15 : Nat) : Int) = 15 := rfl
        replace HX := Aside0.mk ((tb_no (by decide : 15 ≠ 16)) ▸ HX.out)
        obtain ⟨v, hC⟩ := HE.out (by omega)
        have HC := Aside0.mk hC
        clear hC HE HB hlt
        go_wp2_with fail
        refine (step_last w wr g f gr ⟨0, 0, 0, 0, 0, 0, 0, 0, 0⟩ dflt v 0 0 0 0 (mx dflt.band 0) dflt.r dflt.rg 0 false (List.replicate 15 405300) 2048 405300 false HC.out dflt_ok (.inl rfl) d_good d_lost rfl 405300 0 d_mean d_good HT.out rfl (fun w => by rw [d_alt]; exact out_zero w)).mono ?_
        rintro e wx ⟨v', rfl, hC, hk⟩
        have hX := blk_kept HX.out hk (fun hS => by rcases hS with e | e | e | e; exact blk_ne HX.out HC.out.hg (by decide) e; exact blk_ne HX.out HC.out.hf (by decide) e; exact (HC.out.hi.ne_blk HX.out (by decide)) e.symm; exact (Kd.R_ne HC.out.hr HX.out (by decide)) e.symm)
        rw [d_last, d_run] at hC
        have HX2 := Aside0.mk hX
        have HC2 := Aside0.mk hC
        clear hX hC hk
        rw [d_clip]
        unfold toldV
        have y0 : wx.cell? ⟨b, 0, none⟩ = some (.int .i64 0) := (blk_cell HX2.out 0).trans rfl
        have f0 := blk_frozen HX2.out 0
        have y1 : wx.cell? ⟨b, 1, none⟩ = some (.bool false) := (blk_cell HX2.out 1).trans rfl
        have f1 := blk_frozen HX2.out 1
        have y2 : wx.cell? ⟨b, 2, none⟩ = some (.bool false) := (blk_cell HX2.out 2).trans rfl
        have f2 := blk_frozen HX2.out 2
        have y3 : wx.cell? ⟨b, 3, none⟩ = some (.bool false) := (blk_cell HX2.out 3).trans rfl
        have f3 := blk_frozen HX2.out 3
        have y4 : wx.cell? ⟨b, 4, none⟩ = some (.bool false) := (blk_cell HX2.out 4).trans rfl
        have f4 := blk_frozen HX2.out 4
        have y5 : wx.cell? ⟨b, 5, none⟩ = some (.bool false) := (blk_cell HX2.out 5).trans rfl
        have f5 := blk_frozen HX2.out 5
        have y6 : wx.cell? ⟨b, 6, none⟩ = some (.int .i64 0) := (blk_cell HX2.out 6).trans rfl
        have f6 := blk_frozen HX2.out 6
        have y7 : wx.cell? ⟨b, 7, none⟩ = some (.int .i64 0) := (blk_cell HX2.out 7).trans rfl
        have f7 := blk_frozen HX2.out 7
        have y8 : wx.cell? ⟨b, 8, none⟩ = some (.int .i64 0) := (blk_cell HX2.out 8).trans rfl
        have f8 := blk_frozen HX2.out 8
        obtain ⟨q4, qh⟩ := HC2.out.told2 HX2.out HG0.out 1 true true false false false 0 0 0
        go_wp2_with fail
        generalize ((((((((wx.setCell ⟨b, 0, none⟩ (.int .i64 1)).setCell ⟨b, 1, none⟩ (.bool true)).setCell ⟨b, 2, none⟩ (.bool true)).setCell ⟨b, 3, none⟩ (.bool false)).setCell ⟨b, 4, none⟩ (.bool false)).setCell ⟨b, 5, none⟩ (.bool false)).setCell ⟨b, 6, none⟩ (.int .i64 0)).setCell ⟨b, 7, none⟩ (.int .i64 0)).setCell ⟨b, 8, none⟩ (.int .i64 0) = wz at q4 qh ⊢
        go_roundw
        case rel => exact ⟨16, by decide, rfl, ⟨fun h => absurd h (by decide)⟩, ⟨q4⟩, ⟨qh.hb⟩⟩
        case measure => decide
      · have h16 : k = 16 := by omega
        subst h16
        have hc16 : ((16 : Nat) : Int) = 16 := rfl
        replace HX := Aside0.mk (show wr.heap[b]? = some (.cells FIN 39 (0, 0)) from HX.out)
        unfold FIN toldV at HX
        have y0 : wr.cell? ⟨b, 0, none⟩ = some (.int .i64 1) := (blk_cell HX.out 0).trans rfl
        have y1 : wr.cell? ⟨b, 1, none⟩ = some (.bool true) := (blk_cell HX.out 1).trans rfl
        have y2 : wr.cell? ⟨b, 2, none⟩ = some (.bool true) := (blk_cell HX.out 2).trans rfl
        have y3 : wr.cell? ⟨b, 3, none⟩ = some (.bool false) := (blk_cell HX.out 3).trans rfl
        have y4 : wr.cell? ⟨b, 4, none⟩ = some (.bool false) := (blk_cell HX.out 4).trans rfl
        have y5 : wr.cell? ⟨b, 5, none⟩ = some (.bool false) := (blk_cell HX.out 5).trans rfl
        have y6 : wr.cell? ⟨b, 6, none⟩ = some (.int .i64 0) := (blk_cell HX.out 6).trans rfl
        have y7 : wr.cell? ⟨b, 7, none⟩ = some (.int .i64 0) := (blk_cell HX.out 7).trans rfl
        have y8 : wr.cell? ⟨b, 8, none⟩ = some (.int .i64 0) := (blk_cell HX.out 8).trans rfl
        clear hlt h15
        go_wp2_with fail
        go_ret
        exact ⟨rfl, HB.out⟩

set_option maxRecDepth 100000 in
set_option maxHeartbeats 4000000 in
theorem names_any (w : World) (hT : Tab w) : Calls Tryz.prog 3 #[] w fun e w' => e = .returned (.bool true) ∧ Below w.heap.size w w' := by
  have HT := Aside0.mk hT
  clear hT
  go_enter Tryz.func3, Tryz.ntmps3
  go_upto_region 2 with fail
  have HX := Aside0.mk (blk_new w (.cells #[.int .i64 0, .int .i64 1, .int .i64 2, .int .i64 3, .int .i64 4, .int .i64 5, .int .i64 6, .int .i64 7] 22))
  have HB := Aside0.mk (below_alloc (Below.refl w.heap.size w) (.cells #[.int .i64 0, .int .i64 1, .int .i64 2, .int .i64 3, .int .i64 4, .int .i64 5, .int .i64 6, .int .i64 7] 22))
  obtain ⟨b, hb⟩ : ∃ b, b = w.heap.size := ⟨_, rfl⟩
  rw [← hb] at HX ⊢
  clear hb
  generalize w.alloc (.cells #[.int .i64 0, .int .i64 1, .int .i64 2, .int .i64 3, .int .i64 4, .int .i64 5, .int .i64 6, .int .i64 7] 22) = w1 at HX HB ⊢
  go_wp2_with fail
  go_loopw [8] (fun v8 wr => ∃ k : Int, (0 ≤ k ∧ k ≤ 8) ∧ v8 = .int .i64 k ∧ Aside0 (wr.heap[b]? = some (.cells #[.int .i64 0, .int .i64 1, .int .i64 2, .int .i64 3, .int .i64 4, .int .i64 5, .int .i64 6, .int .i64 7] 22 (0, 0))) ∧ Aside0 (Below w.heap.size w wr)) (fun v8 _ => 9 - (intOf v8).toNat)
  case atStart => exact ⟨0, by omega, rfl, HX, HB⟩
  case round =>
    clear HX HB
    obtain ⟨k, hk, rfl, HX, HB⟩ := hrel
    have hk4 : k = 0 ∨ k = 1 ∨ k = 2 ∨ k = 3 ∨ k = 4 ∨ k = 5 ∨ k = 6 ∨ k = 7 ∨ k = 8 := by omega
    clear hk
    rcases hk4 with rfl | rfl | rfl | rfl | rfl | rfl | rfl | rfl | rfl
    · have x : wr.cell? ⟨b, 0, none⟩ = some (.int .i64 0) := (blk_cell HX.out 0).trans rfl
      go_wp2_with fail
      go_roundw
      case rel => exact ⟨1, by decide, rfl, HX, HB⟩
      case measure => decide
    · have x : wr.cell? ⟨b, 1, none⟩ = some (.int .i64 1) := (blk_cell HX.out 1).trans rfl
      go_wp2_with fail
      go_roundw
      case rel => exact ⟨2, by decide, rfl, HX, HB⟩
      case measure => decide
    · have x : wr.cell? ⟨b, 2, none⟩ = some (.int .i64 2) := (blk_cell HX.out 2).trans rfl
      go_wp2_with fail
      go_roundw
      case rel => exact ⟨3, by decide, rfl, HX, HB⟩
      case measure => decide
    · have x : wr.cell? ⟨b, 3, none⟩ = some (.int .i64 3) := (blk_cell HX.out 3).trans rfl
      go_wp2_with fail
      go_roundw
      case rel => exact ⟨4, by decide, rfl, HX, HB⟩
      case measure => decide
    · have x : wr.cell? ⟨b, 4, none⟩ = some (.int .i64 4) := (blk_cell HX.out 4).trans rfl
      go_wp2_with fail
      go_roundw
      case rel => exact ⟨5, by decide, rfl, HX, HB⟩
      case measure => decide
    · have x : wr.cell? ⟨b, 5, none⟩ = some (.int .i64 5) := (blk_cell HX.out 5).trans rfl
      go_wp2_with fail
      go_roundw
      case rel => exact ⟨6, by decide, rfl, HX, HB⟩
      case measure => decide
    · have x : wr.cell? ⟨b, 6, none⟩ = some (.int .i64 6) := (blk_cell HX.out 6).trans rfl
      go_wp2_with fail
      go_roundw
      case rel => exact ⟨7, by decide, rfl, HX, HB⟩
      case measure => decide
    · have x : wr.cell? ⟨b, 7, none⟩ = some (.int .i64 7) := (blk_cell HX.out 7).trans rfl
      go_wp2_with fail
      go_roundw
      case rel => exact ⟨8, by decide, rfl, HX, HB⟩
      case measure => decide
    · go_wp2_with fail
      refine (fixed_any wr (HT.out.below HB.out)).mono ?_
      rintro e w2 ⟨rfl, hb⟩
      replace HB := Aside0.mk (below_step HB.out hb)
      clear hb
      go_wp2_with fail
      go_ret
      exact ⟨rfl, HB.out⟩
end Go.Proofs.YtpdahkgandaabaaGreatDoor.Ch
