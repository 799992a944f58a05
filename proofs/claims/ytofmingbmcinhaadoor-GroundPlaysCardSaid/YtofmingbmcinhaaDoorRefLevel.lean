/- The document's level of a count (layer 18): the walk of its Level. -/
import Derived.Test.YtofmingbmcinhaaDoorRefAlt
import Derived.Test.YtofmingbmcinhaaDoorLevel
namespace Go.Proofs.YtofmingbmcinhaaDoor.Bg
open Go.RowKit Go.Proofs.YtofmingbmcinhaaDoorW.PrintWords Go.Proofs.YtofmingbmcinhaaDoorW.PrintLast Go.Proofs.YtofmingbmcinhaaDoorW.PrintMore Go.Proofs.YtofmingbmcinhaaDoor.PGroundPlays Go.Proofs.YtofmingbmcinhaaDoor.Gd
set_option linter.unusedVariables false
set_option linter.unusedSimpArgs false

/-- Whether a count is near, as the document tells it. -/
def rnear (band count c : Int) : Bool := good c && (!decide (count = 0) && (decide (count ≤ c) || decide (wrap64 (count - c) ≤ band)))
theorem rnear_f (band noise rough count c : Int) : aneroidref18_Ground_Near.f band noise rough count c = some (rnear band count c) := by
  have hg : aneroidref06_Good.f c = some (good c) := by
    unfold aneroidref06_Good.f good
    by_cases h1 : c > 90527
    · rw [if_pos h1, decide_eq_true (show 90528 ≤ c by omega), Bool.true_and]
      congr 1
      by_cases h2 : c ≤ 430515
      · rw [decide_eq_true h2, decide_eq_true (by omega)]
      · rw [decide_eq_false h2, decide_eq_false (by omega)]
    · rw [if_neg h1, decide_eq_false (show ¬ 90528 ≤ c by omega), Bool.false_and]
  unfold aneroidref18_Ground_Near.f rnear
  rw [hg, Option.bind_some]
  cases good c with
  | false => simp
  | true =>
    by_cases h : count = 0
    · simp [h]
    · by_cases h2 : count ≤ c
      · simp [h, h2]
      · simp [h, h2]
/-- What the document's Level answers. -/
def rlevel (band noise rough count c : Int) : Value :=
  .agg #[.int .i64 (if good c then (if rnear band count c then mx (alt c) (altv count) else alt c) else 0), .int .i64 (if good c then (if rnear band count c then rough else noise) else 0),
    .bool (rnear band count c), .int .i64 (if good c then 0 else 2)]
theorem ralt_no (w : World) (c : Int) (h : good c = false) : Calls Tryd.prog 19 #[.int .i64 c] w fun e w' => e = .returned (.tuple #[.int .i64 0, .int .i64 2]) ∧ Below w.heap.size w w' := by
  have := ralt_any w c
  simp only [h, Bool.false_eq_true, if_false] at this
  exact this
theorem ralt_yes (w : World) (c : Int) (h : good c = true) : Calls Tryd.prog 19 #[.int .i64 c] w fun e w' => e = .returned (.tuple #[.int .i64 (alt c), .int .i64 0]) ∧ Below w.heap.size w w' := by
  have := ralt_any w c
  simp only [h, if_true] at this
  exact this

theorem four_set {w0 W : World} {b : Nat} {x0 x1 x2 x3 : Value} (h : W.heap[b]? = some (.cells #[x0, x1, x2, x3] 37 (0, 0))) (y0 y1 y2 y3 : Value) (hb : w0.heap.size ≤ b) (hB : Below w0.heap.size w0 W) :
    ((((W.setCell ⟨b, 0, none⟩ y0).setCell ⟨b, 1, none⟩ y1).setCell ⟨b, 2, none⟩ y2).setCell ⟨b, 3, none⟩ y3).cell? ⟨b, 0, none⟩ = some y0 ∧ ((((W.setCell ⟨b, 0, none⟩ y0).setCell ⟨b, 1, none⟩ y1).setCell ⟨b, 2, none⟩ y2).setCell ⟨b, 3, none⟩ y3).cell? ⟨b, 1, none⟩ = some y1 ∧
    ((((W.setCell ⟨b, 0, none⟩ y0).setCell ⟨b, 1, none⟩ y1).setCell ⟨b, 2, none⟩ y2).setCell ⟨b, 3, none⟩ y3).cell? ⟨b, 2, none⟩ = some y2 ∧ ((((W.setCell ⟨b, 0, none⟩ y0).setCell ⟨b, 1, none⟩ y1).setCell ⟨b, 2, none⟩ y2).setCell ⟨b, 3, none⟩ y3).cell? ⟨b, 3, none⟩ = some y3 ∧
    Below w0.heap.size w0 ((((W.setCell ⟨b, 0, none⟩ y0).setCell ⟨b, 1, none⟩ y1).setCell ⟨b, 2, none⟩ y2).setCell ⟨b, 3, none⟩ y3) := by
  have q : ((((W.setCell ⟨b, 0, none⟩ y0).setCell ⟨b, 1, none⟩ y1).setCell ⟨b, 2, none⟩ y2).setCell ⟨b, 3, none⟩ y3).heap[b]? = some (.cells #[y0, y1, y2, y3] 37 (0, 0)) := by
    simpa using blk_set (blk_set (blk_set (blk_set h 0 y0) 1 y1) 2 y2) 3 y3
  exact ⟨(blk_cell q 0).trans rfl, (blk_cell q 1).trans rfl, (blk_cell q 2).trans rfl, (blk_cell q 3).trans rfl, (((hB.setCell (p := ⟨b, 0, none⟩) hb y0).setCell (p := ⟨b, 1, none⟩) hb y1).setCell (p := ⟨b, 2, none⟩) hb y2).setCell (p := ⟨b, 3, none⟩) hb y3⟩

set_option maxRecDepth 100000 in
set_option maxHeartbeats 4000000 in
theorem rlevel_any (w : World) (band noise rough count c : Int) :
    Calls Tryd.prog 11 #[.agg #[.int .i64 band, .int .i64 noise, .int .i64 rough, .int .i64 count], .int .i64 c] w fun e w' => e = .returned (rlevel band noise rough count c) ∧ Below w.heap.size w w' := by
  cases hg : good c with
  | false =>
    have HV := Aside0.mk (show rlevel band noise rough count c = .agg #[.int .i64 0, .int .i64 0, .bool false, .int .i64 2] by simp [rlevel, rnear, hg])
    go_enter Tryd.func11, Tryd.ntmps11
    go_wp2_with fail
    obtain ⟨x2, x4, hB⟩ := blocks2 w #[.int .i64 band, .int .i64 noise, .int .i64 rough, .int .i64 count] #[.int .i64 0, .int .i64 0, .bool false, .int .i64 0] 28 37
    generalize (w.alloc (.cells #[.int .i64 band, .int .i64 noise, .int .i64 rough, .int .i64 count] 28)).alloc (.cells #[.int .i64 0, .int .i64 0, .bool false, .int .i64 0] 37) = w1 at x2 x4 hB ⊢
    obtain ⟨b2, h2⟩ : ∃ b, b = w.heap.size := ⟨_, rfl⟩
    obtain ⟨b4, h4⟩ : ∃ b, b = w.heap.size + 1 := ⟨_, rfl⟩
    have g4 : w.heap.size ≤ b4 := by omega
    rw [← h4, ← h2]
    rw [← h2] at x2
    rw [← h4] at x4
    have HX2 := Aside0.mk x2
    have HX4 := Aside0.mk x4
    have HB := Aside0.mk hB
    clear x2 x4 hB h2 h4
    refine (ralt_no w1 c hg).mono ?_
    rintro e w2 ⟨rfl, hb⟩
    replace HX2 := Aside0.mk (blk_below HX2.out hb)
    replace HX4 := Aside0.mk (blk_below HX4.out hb)
    replace HB := Aside0.mk (below_step HB.out hb)
    clear hb
    have c0 : w2.cell? ⟨b4, 0, none⟩ = some (.int .i64 0) := (blk_cell HX4.out 0).trans rfl
    have c1 : w2.cell? ⟨b4, 1, none⟩ = some (.int .i64 0) := (blk_cell HX4.out 1).trans rfl
    have c2 : w2.cell? ⟨b4, 2, none⟩ = some (.bool false) := (blk_cell HX4.out 2).trans rfl
    have c3 : w2.cell? ⟨b4, 3, none⟩ = some (.int .i64 0) := (blk_cell HX4.out 3).trans rfl
    have f0 := blk_frozen HX4.out 0
    have f1 := blk_frozen HX4.out 1
    have f2 := blk_frozen HX4.out 2
    have f3 := blk_frozen HX4.out 3
    go_wp2_with fail
    obtain ⟨r0, r1, r2, r3, qb⟩ := four_set HX4.out (.int .i64 0) (.int .i64 0) (.bool false) (.int .i64 2) g4 HB.out
    generalize (((w2.setCell ⟨b4, 0, none⟩ (.int .i64 0)).setCell ⟨b4, 1, none⟩ (.int .i64 0)).setCell ⟨b4, 2, none⟩ (.bool false)).setCell ⟨b4, 3, none⟩ (.int .i64 2) = W at r0 r1 r2 r3 qb ⊢
    clear c0 c1 c2 c3 f0 f1 f2 f3
    refine ⟨rfl, .agg #[.int .i64 0, .int .i64 0, .bool false, .int .i64 2], ?_, congrArg Ending.returned HV.out.symm, qb⟩
    simp [results, Tryd.results11, go_sem, r0, r1, r2, r3]
  | true =>
    go_enter Tryd.func11, Tryd.ntmps11
    go_wp2_with fail
    obtain ⟨x2, x4, hB⟩ := blocks2 w #[.int .i64 band, .int .i64 noise, .int .i64 rough, .int .i64 count] #[.int .i64 0, .int .i64 0, .bool false, .int .i64 0] 28 37
    generalize (w.alloc (.cells #[.int .i64 band, .int .i64 noise, .int .i64 rough, .int .i64 count] 28)).alloc (.cells #[.int .i64 0, .int .i64 0, .bool false, .int .i64 0] 37) = w1 at x2 x4 hB ⊢
    obtain ⟨b2, h2⟩ : ∃ b, b = w.heap.size := ⟨_, rfl⟩
    obtain ⟨b4, h4⟩ : ∃ b, b = w.heap.size + 1 := ⟨_, rfl⟩
    have g4 : w.heap.size ≤ b4 := by omega
    rw [← h4, ← h2]
    rw [← h2] at x2
    rw [← h4] at x4
    have HX2 := Aside0.mk x2
    have HX4 := Aside0.mk x4
    have HB := Aside0.mk hB
    clear x2 x4 hB h2 h4
    refine (ralt_yes w1 c hg).mono ?_
    rintro e w2 ⟨rfl, hb⟩
    replace HX2 := Aside0.mk (blk_below HX2.out hb)
    replace HX4 := Aside0.mk (blk_below HX4.out hb)
    replace HB := Aside0.mk (below_step HB.out hb)
    clear hb
    have x0 : w2.cell? ⟨b2, 0, none⟩ = some (.int .i64 band) := (blk_cell HX2.out 0).trans rfl
    have x1 : w2.cell? ⟨b2, 1, none⟩ = some (.int .i64 noise) := (blk_cell HX2.out 1).trans rfl
    have x2 : w2.cell? ⟨b2, 2, none⟩ = some (.int .i64 rough) := (blk_cell HX2.out 2).trans rfl
    have x3 : w2.cell? ⟨b2, 3, none⟩ = some (.int .i64 count) := (blk_cell HX2.out 3).trans rfl
    go_wp2_with fail
    refine (aneroidref18_Ground_Near.calls band noise rough count c _ w2 (rnear_f band noise rough count c)).mono ?_
    rintro e w3 ⟨rfl, hb⟩
    clear x0 x1 x2 x3
    replace HX2 := Aside0.mk (blk_below HX2.out hb)
    replace HX4 := Aside0.mk (blk_below HX4.out hb)
    replace HB := Aside0.mk (below_step HB.out hb)
    clear hb
    cases hr : rnear band count c with
    | false =>
      have HV := Aside0.mk (show rlevel band noise rough count c = .agg #[.int .i64 (alt c), .int .i64 noise, .bool false, .int .i64 0] by simp [rlevel, hr, hg])
      have x0 : w3.cell? ⟨b2, 0, none⟩ = some (.int .i64 band) := (blk_cell HX2.out 0).trans rfl
      have x1 : w3.cell? ⟨b2, 1, none⟩ = some (.int .i64 noise) := (blk_cell HX2.out 1).trans rfl
      have x2 : w3.cell? ⟨b2, 2, none⟩ = some (.int .i64 rough) := (blk_cell HX2.out 2).trans rfl
      have x3 : w3.cell? ⟨b2, 3, none⟩ = some (.int .i64 count) := (blk_cell HX2.out 3).trans rfl
      have c0 : w3.cell? ⟨b4, 0, none⟩ = some (.int .i64 0) := (blk_cell HX4.out 0).trans rfl
      have c1 : w3.cell? ⟨b4, 1, none⟩ = some (.int .i64 0) := (blk_cell HX4.out 1).trans rfl
      have c2 : w3.cell? ⟨b4, 2, none⟩ = some (.bool false) := (blk_cell HX4.out 2).trans rfl
      have c3 : w3.cell? ⟨b4, 3, none⟩ = some (.int .i64 0) := (blk_cell HX4.out 3).trans rfl
      have f0 := blk_frozen HX4.out 0
      have f1 := blk_frozen HX4.out 1
      have f2 := blk_frozen HX4.out 2
      have f3 := blk_frozen HX4.out 3
      clear hr hg
      go_wp2_with fail
      obtain ⟨r0, r1, r2, r3, qb⟩ := four_set HX4.out (.int .i64 (alt c)) (.int .i64 noise) (.bool false) (.int .i64 0) g4 HB.out
      generalize (((w3.setCell ⟨b4, 0, none⟩ (.int .i64 (alt c))).setCell ⟨b4, 1, none⟩ (.int .i64 noise)).setCell ⟨b4, 2, none⟩ (.bool false)).setCell ⟨b4, 3, none⟩ (.int .i64 0) = W at r0 r1 r2 r3 qb ⊢
      clear c0 c1 c2 c3 f0 f1 f2 f3
      refine ⟨rfl, .agg #[.int .i64 (alt c), .int .i64 noise, .bool false, .int .i64 0], ?_, congrArg Ending.returned HV.out.symm, qb⟩
      simp [results, Tryd.results11, go_sem, r0, r1, r2, r3]
    | true =>
      have HV := Aside0.mk (show rlevel band noise rough count c = .agg #[.int .i64 (mx (alt c) (altv count)), .int .i64 rough, .bool true, .int .i64 0] by simp [rlevel, hr, hg])
      have x0 : w3.cell? ⟨b2, 0, none⟩ = some (.int .i64 band) := (blk_cell HX2.out 0).trans rfl
      have x1 : w3.cell? ⟨b2, 1, none⟩ = some (.int .i64 noise) := (blk_cell HX2.out 1).trans rfl
      have x2 : w3.cell? ⟨b2, 2, none⟩ = some (.int .i64 rough) := (blk_cell HX2.out 2).trans rfl
      have x3 : w3.cell? ⟨b2, 3, none⟩ = some (.int .i64 count) := (blk_cell HX2.out 3).trans rfl
      clear hr hg
      go_wp2_with fail
      refine (ralt_any w3 count).mono ?_
      rintro e w4 ⟨rfl, hb⟩
      clear x0 x1 x2 x3
      replace HX2 := Aside0.mk (blk_below HX2.out hb)
      replace HX4 := Aside0.mk (blk_below HX4.out hb)
      replace HB := Aside0.mk (below_step HB.out hb)
      clear hb
      rw [show (if good count = true then alt count else 0) = altv count from rfl]
      obtain ⟨low, hlow⟩ : ∃ low, low = altv count := ⟨_, rfl⟩
      obtain ⟨own, hown⟩ : ∃ own, own = alt c := ⟨_, rfl⟩
      obtain ⟨ee, hee⟩ : ∃ ee : Int, ee = if good count = true then 0 else 2 := ⟨_, rfl⟩
      rw [← hlow, ← hown] at HV
      rw [← hlow, ← hown, ← hee]
      clear hlow hown hee
      have x0 : w4.cell? ⟨b2, 0, none⟩ = some (.int .i64 band) := (blk_cell HX2.out 0).trans rfl
      have x1 : w4.cell? ⟨b2, 1, none⟩ = some (.int .i64 noise) := (blk_cell HX2.out 1).trans rfl
      have x2 : w4.cell? ⟨b2, 2, none⟩ = some (.int .i64 rough) := (blk_cell HX2.out 2).trans rfl
      have x3 : w4.cell? ⟨b2, 3, none⟩ = some (.int .i64 count) := (blk_cell HX2.out 3).trans rfl
      have c0 : w4.cell? ⟨b4, 0, none⟩ = some (.int .i64 0) := (blk_cell HX4.out 0).trans rfl
      have c1 : w4.cell? ⟨b4, 1, none⟩ = some (.int .i64 0) := (blk_cell HX4.out 1).trans rfl
      have c2 : w4.cell? ⟨b4, 2, none⟩ = some (.bool false) := (blk_cell HX4.out 2).trans rfl
      have c3 : w4.cell? ⟨b4, 3, none⟩ = some (.int .i64 0) := (blk_cell HX4.out 3).trans rfl
      have f0 := blk_frozen HX4.out 0
      have f1 := blk_frozen HX4.out 1
      have f2 := blk_frozen HX4.out 2
      have f3 := blk_frozen HX4.out 3
      by_cases hcmp : own < low
      · have q1 : decide (own < low) = true := decide_eq_true hcmp
        have hm : mx own low = low := by unfold mx; rw [if_pos hcmp]
        rw [hm] at HV
        clear hm hcmp
        go_wp2_with fail
        obtain ⟨r0, r1, r2, r3, qb⟩ := four_set HX4.out (.int .i64 low) (.int .i64 rough) (.bool true) (.int .i64 0) g4 HB.out
        generalize (((w4.setCell ⟨b4, 0, none⟩ (.int .i64 low)).setCell ⟨b4, 1, none⟩ (.int .i64 rough)).setCell ⟨b4, 2, none⟩ (.bool true)).setCell ⟨b4, 3, none⟩ (.int .i64 0) = W at r0 r1 r2 r3 qb ⊢
        clear c0 c1 c2 c3 f0 f1 f2 f3
        refine ⟨rfl, .agg #[.int .i64 low, .int .i64 rough, .bool true, .int .i64 0], ?_, congrArg Ending.returned HV.out.symm, qb⟩
        simp [results, Tryd.results11, go_sem, r0, r1, r2, r3]
      · have q1 : decide (own < low) = false := decide_eq_false hcmp
        have hm : mx own low = own := by unfold mx; rw [if_neg hcmp]
        rw [hm] at HV
        clear hm hcmp
        go_wp2_with fail
        obtain ⟨r0, r1, r2, r3, qb⟩ := four_set HX4.out (.int .i64 own) (.int .i64 rough) (.bool true) (.int .i64 0) g4 HB.out
        generalize (((w4.setCell ⟨b4, 0, none⟩ (.int .i64 own)).setCell ⟨b4, 1, none⟩ (.int .i64 rough)).setCell ⟨b4, 2, none⟩ (.bool true)).setCell ⟨b4, 3, none⟩ (.int .i64 0) = W at r0 r1 r2 r3 qb ⊢
        clear c0 c1 c2 c3 f0 f1 f2 f3
        refine ⟨rfl, .agg #[.int .i64 own, .int .i64 rough, .bool true, .int .i64 0], ?_, congrArg Ending.returned HV.out.symm, qb⟩
        simp [results, Tryd.results11, go_sem, r0, r1, r2, r3]
end Go.Proofs.YtofmingbmcinhaaDoor.Bg
