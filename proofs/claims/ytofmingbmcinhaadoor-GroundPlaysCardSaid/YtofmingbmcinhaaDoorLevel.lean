/- Layer 18: the walk of the ground's Level, with the call that it defers. -/
import Derived.Test.YtofmingbmcinhaaDoorGround
import Derived.Defers
namespace Go.Proofs.YtofmingbmcinhaaDoor.Gd
open Go.RowKit Go.Proofs.YtofmingbmcinhaaDoorW.PrintWords Go.Proofs.YtofmingbmcinhaaDoorW.PrintLast Go.Proofs.YtofmingbmcinhaaDoorW.PrintMore Go.Proofs.YtofmingbmcinhaaDoor.PGroundPlays
attribute [local go_sem] max2_int min2_int max_two min_two max_three min_three max_four min_four   -- for this text's walks alone
set_option linter.unusedVariables false
set_option linter.unusedSimpArgs false

/-- The altitude as a call answers it: 0 of what isn't good. -/
def altv (c : Int) : Int := if good c then alt c else 0

set_option maxRecDepth 100000 in
set_option maxHeartbeats 4000000 in
theorem level1_any (w0 wb w : World) (u : FrameMode) (bn bg ba bz g : Nat) (band noise rough count z zn : Int) (known nr : Bool)
    (hn : w.heap[bn]? = some (.cells #[.bool nr] 4 (0, 0))) (hg : w.heap[bg]? = some (.cells #[.pointer (some ⟨g, 0, none⟩)] 25 (0, 0)))
    (ha : w.heap[ba]? = some (.cells #[.int .i64 z] 2 (0, 0))) (hz : w.heap[bz]? = some (.cells #[.int .i64 zn] 2 (0, 0)))
    (hI : IsS47 w0 w g band noise rough count known) (hT : Tab w) (hne : ba ≠ bz) (hba : wb.heap.size ≤ ba) (hbz : wb.heap.size ≤ bz) (hB : Below wb.heap.size wb w) :
    CallsD Tryd.prog 18 #[.pointer (some ⟨bn, 0, none⟩), .pointer (some ⟨bg, 0, none⟩), .pointer (some ⟨ba, 0, none⟩), .pointer (some ⟨bz, 0, none⟩)] u w fun e u' w' => u' = u ∧ (e = .returned (.tuple #[]) ∧
      w'.heap[ba]? = some (.cells #[.int .i64 (if nr then mx z (altv count) else z)] 2 (0, 0)) ∧ w'.heap[bz]? = some (.cells #[.int .i64 (if nr then rough else zn)] 2 (0, 0)) ∧
      w'.heap[bn]? = some (.cells #[.bool nr] 4 (0, 0)) ∧ Below wb.heap.size wb w') := by
  have HI := Aside0.mk hI
  have HB := Aside0.mk hB
  have HN := Aside0.mk hn
  have HG := Aside0.mk hg
  have HA := Aside0.mk ha
  have HZ := Aside0.mk hz
  have HT := Aside0.mk hT
  have nb : bn ≠ ba := by rintro rfl; rw [hn] at ha; simp at ha
  have nz : bn ≠ bz := by rintro rfl; rw [hn] at hz; simp at hz
  have x0 := (blk_cell hn 0).trans rfl
  clear hn hg ha hz hI hB hT
  cases nr with
  | false =>
    go_enter_d Tryd.func18, Tryd.ntmps18
    go_wp2_with fail
    go_end0
    exact ⟨rfl, HA.out, HZ.out, HN.out, HB.out⟩
  | true =>
    have x1 := (blk_cell HG.out 0).trans rfl
    have x2 := cellS47_3 HI.out.1
    go_enter_d Tryd.func18, Tryd.ntmps18
    go_wp2_with fail
    refine (alt_any w count HT.out).mono ?_
    rintro e w1 ⟨rfl, hb⟩
    replace HI := Aside0.mk (HI.out.below hb)
    replace HN := Aside0.mk (blk_below HN.out hb)
    replace HG := Aside0.mk (blk_below HG.out hb)
    replace HA := Aside0.mk (blk_below HA.out hb)
    replace HZ := Aside0.mk (blk_below HZ.out hb)
    replace HB := Aside0.mk (below_step HB.out hb)
    clear x0 x1 x2 hb
    rw [show (if good count then alt count else 0) = altv count from rfl]
    obtain ⟨low, hlow⟩ : ∃ low, low = altv count := ⟨_, rfl⟩
    rw [← hlow]
    have HL := Aside0.mk hlow
    clear hlow
    have x1 := (blk_cell HG.out 0).trans rfl
    have x2 := (blk_cell HA.out 0).trans rfl
    have x3 := cellS47_2 HI.out.1
    have x4 := (blk_cell HZ.out 0).trans rfl
    have f2 := blk_frozen HA.out 0
    have f4 := blk_frozen HZ.out 0
    go_upto_region 2 with fail
    go_region
    go_end0
    rw [← HL.out]
    refine ⟨rfl, ?_, ?_, ?_, ?_⟩
    · exact blk_drew (by simpa [mx] using blk_far (blk_set HA.out 0 (.int .i64 (if z < low then low else z))) hne (.int .i64 rough))
    · exact blk_drew (by simpa using blk_set (blk_far HZ.out (Ne.symm hne) (.int .i64 (if z < low then low else z))) 0 (.int .i64 rough))
    · exact blk_drew (blk_far (blk_far HN.out nb _) nz _)
    · exact below_drew ((HB.out.setCell (p := ⟨ba, 0, none⟩) hba _).setCell (p := ⟨bz, 0, none⟩) hbz _)

/-- What Level answers. -/
def levelR (band noise rough count : Int) (known : Bool) (c : Int) : Value :=
  .tuple #[.int .i64 (if good c then (if near band count known c then mx (alt c) (altv count) else alt c) else 0), .int .i64 (if good c then (if near band count known c then rough else noise) else 0),
    .bool (near band count known c), .int .i64 (if good c then 0 else 2)]
theorem wp_calm {P : Program} {c : Code} {Q : Exit → Act → World → Prop} {a : Act} {w : World} (h : c.wp P (fun e a w => match e with | .panic _ => False | e => Q e a w) a w) : c.wp P Q a w :=
  Code.wp_mono (fun e a w h => by cases e <;> first | exact h | exact h.elim) h
theorem size_alloc (w : World) (o : Obj) : (w.alloc o).heap.size = w.heap.size + 1 := by
  unfold World.alloc
  exact Array.size_push _
theorem alt_no (w : World) (c : Int) (hT : Tab w) (h : good c = false) :
    Calls Tryd.prog 16 #[.int .i64 c] w fun e w' => e = .returned (.tuple #[.int .i64 0, .int .i64 2]) ∧ Below w.heap.size w w' := by
  have := alt_any w c hT
  simp only [h, Bool.false_eq_true, if_false] at this
  exact this
theorem alt_yes (w : World) (c : Int) (hT : Tab w) (h : good c = true) :
    Calls Tryd.prog 16 #[.int .i64 c] w fun e w' => e = .returned (.tuple #[.int .i64 (alt c), .int .i64 0]) ∧ Below w.heap.size w w' := by
  have := alt_any w c hT
  simp only [h, if_true] at this
  exact this

set_option maxRecDepth 100000 in
set_option maxHeartbeats 4000000 in
theorem level_any (w0 w : World) (g : Nat) (band noise rough count : Int) (known : Bool) (c : Int) (hI : IsS47 w0 w g band noise rough count known) (hT : Tab w) :
    Calls Tryd.prog 10 #[.pointer (some ⟨g, 0, none⟩), .int .i64 c] w fun e w' => e = .returned (levelR band noise rough count known c) ∧ Below w.heap.size w w' := by
  have HI := Aside0.mk hI
  have HT := Aside0.mk hT
  have HT0 := Aside0.mk hT
  have hmk := mk_func
  clear hI hT
  go_enter_defers Tryd.func10, Tryd.ntmps10
  go_wp2_with fail
  obtain ⟨n, hn⟩ : ∃ n, n = w.heap.size := ⟨_, rfl⟩
  have X2 := blk_new w (.cells #[.pointer (some ⟨g, 0, none⟩)] 25)
  have L1 := below_alloc (Below.refl w.heap.size w) (.cells #[.pointer (some ⟨g, 0, none⟩)] 25)
  have s1 : (w.alloc (.cells #[.pointer (some ⟨g, 0, none⟩)] 25)).heap.size = w.heap.size + 1 := size_alloc _ _
  rw [← hn] at X2 s1 ⊢
  generalize w.alloc (.cells #[.pointer (some ⟨g, 0, none⟩)] 25) = w1 at X2 L1 s1 ⊢
  have X4 := blk_new w1 (.cells #[.int .i64 0] 2)
  replace X2 := blk_alloc X2 (.cells #[.int .i64 0] 2)
  replace L1 := below_alloc L1 (.cells #[.int .i64 0] 2)
  have s2 : (w1.alloc (.cells #[.int .i64 0] 2)).heap.size = n + 1 + 1 := (size_alloc _ _).trans (by rw [s1])
  rw [s1] at X4
  generalize w1.alloc (.cells #[.int .i64 0] 2) = w2 at X2 X4 L1 s2 ⊢
  clear s1
  have X5 := blk_new w2 (.cells #[.int .i64 0] 2)
  replace X2 := blk_alloc X2 (.cells #[.int .i64 0] 2)
  replace X4 := blk_alloc X4 (.cells #[.int .i64 0] 2)
  replace L1 := below_alloc L1 (.cells #[.int .i64 0] 2)
  have s3 : (w2.alloc (.cells #[.int .i64 0] 2)).heap.size = n + 1 + 1 + 1 := (size_alloc _ _).trans (by rw [s2])
  rw [s2] at X5
  generalize w2.alloc (.cells #[.int .i64 0] 2) = w3 at X2 X4 X5 L1 s3 ⊢
  clear s2
  have X6 := blk_new w3 (.cells #[.bool false] 4)
  replace X2 := blk_alloc X2 (.cells #[.bool false] 4)
  replace X4 := blk_alloc X4 (.cells #[.bool false] 4)
  replace X5 := blk_alloc X5 (.cells #[.bool false] 4)
  replace L1 := below_alloc L1 (.cells #[.bool false] 4)
  rw [s3] at X6
  generalize w3.alloc (.cells #[.bool false] 4) = w4 at X2 X4 X5 X6 L1 ⊢
  clear s3
  replace HI := Aside0.mk (HI.out.below L1)
  replace HT := Aside0.mk (HT.out.below L1)
  obtain ⟨b4, h4⟩ : ∃ b, b = n + 1 := ⟨_, rfl⟩
  obtain ⟨b5, h5⟩ : ∃ b, b = n + 1 + 1 := ⟨_, rfl⟩
  obtain ⟨b6, h6⟩ : ∃ b, b = n + 1 + 1 + 1 := ⟨_, rfl⟩
  rw [← h6, ← h5, ← h4]
  rw [← h6] at X6
  rw [← h5] at X5
  rw [← h4] at X4
  have d45 : b4 ≠ b5 := by omega
  have d46 : b4 ≠ b6 := by omega
  have d56 : b5 ≠ b6 := by omega
  have d24 : n ≠ b4 := by omega
  have d25 : n ≠ b5 := by omega
  have d26 : n ≠ b6 := by omega
  have g4 : w.heap.size ≤ b4 := by omega
  have g5 : w.heap.size ≤ b5 := by omega
  have g6 : w.heap.size ≤ b6 := by omega
  clear hn h4 h5 h6
  cases hg : good c with
  | false =>
    refine (alt_no w4 c HT.out hg).mono ?_
    rintro e w5 ⟨rfl, hb⟩
    replace HI := Aside0.mk (HI.out.below hb)
    replace HT := Aside0.mk (HT.out.below hb)
    replace X2 := blk_below X2 hb
    replace X4 := blk_below X4 hb
    replace X5 := blk_below X5 hb
    replace X6 := blk_below X6 hb
    replace L1 := below_step L1 hb
    have HB := Aside0.mk L1
    clear hb L1
    have HX2 := Aside0.mk X2
    have HX4 := Aside0.mk X4
    have HX5 := Aside0.mk X5
    have HX6 := Aside0.mk X6
    have c4 : w5.cell? ⟨b4, 0, none⟩ = some (.int .i64 0) := (blk_cell X4 0).trans rfl
    have c5 : w5.cell? ⟨b5, 0, none⟩ = some (.int .i64 0) := (blk_cell X5 0).trans rfl
    have c6 : w5.cell? ⟨b6, 0, none⟩ = some (.bool false) := (blk_cell X6 0).trans rfl
    have f4 := blk_frozen X4 0
    have f5 := blk_frozen X5 0
    have f6 := blk_frozen X6 0
    clear X2 X4 X5 X6
    have hV : levelR band noise rough count known c = .tuple #[.int .i64 0, .int .i64 0, .bool false, .int .i64 2] := by simp [levelR, near, hg]
    have HV := Aside0.mk hV
    clear hV
    have z2 : ((2 : Int) != 0) = true := rfl
    go_wp2_with fail
    all_goals
      have q4 := blk_far (blk_far (blk_set (blk_set HX4.out 0 (.int .i64 0)) 0 (.int .i64 0)) (p := ⟨b5, 0, none⟩) d45 (.int .i64 0)) (p := ⟨b6, 0, none⟩) d46 (.bool false)
      have q5 := blk_far (blk_set (blk_far (blk_far HX5.out (p := ⟨b4, 0, none⟩) (Ne.symm d45) (.int .i64 0)) (p := ⟨b4, 0, none⟩) (Ne.symm d45) (.int .i64 0)) 0 (.int .i64 0)) (p := ⟨b6, 0, none⟩) d56 (.bool false)
      have q6 := blk_set (blk_far (blk_far (blk_far HX6.out (p := ⟨b4, 0, none⟩) (Ne.symm d46) (.int .i64 0)) (p := ⟨b4, 0, none⟩) (Ne.symm d46) (.int .i64 0)) (p := ⟨b5, 0, none⟩) (Ne.symm d56) (.int .i64 0)) 0 (.bool false)
      have qB := (((HB.out.setCell (p := ⟨b4, 0, none⟩) g4 (.int .i64 0)).setCell (p := ⟨b4, 0, none⟩) g4 (.int .i64 0)).setCell (p := ⟨b5, 0, none⟩) g5 (.int .i64 0)).setCell (p := ⟨b6, 0, none⟩) g6 (.bool false)
      generalize ((((w5.setCell ⟨b4, 0, none⟩ (.int .i64 0)).setCell ⟨b4, 0, none⟩ (.int .i64 0)).setCell ⟨b5, 0, none⟩ (.int .i64 0)).setCell ⟨b6, 0, none⟩ (.bool false)) = W at q4 q5 q6 qB ⊢
      have r4 : W.cell? ⟨b4, 0, none⟩ = some (.int .i64 0) := (blk_cell q4 0).trans rfl
      have r5 : W.cell? ⟨b5, 0, none⟩ = some (.int .i64 0) := (blk_cell q5 0).trans rfl
      have r6 : W.cell? ⟨b6, 0, none⟩ = some (.bool false) := (blk_cell q6 0).trans rfl
      clear q4 q5 q6 c4 c5 c6 f4 f5 f6
      refine ⟨.tuple #[.int .i64 0, .int .i64 0, .bool false, .int .i64 2], ?_, congrArg Ending.returned HV.out.symm, qB⟩
      simp [results, Tryd.results10, go_sem, r4, r5, r6]
  | true =>
    have hV : levelR band noise rough count known c = .tuple #[.int .i64 (if near band count known c then mx (alt c) (altv count) else alt c), .int .i64 (if near band count known c then rough else noise), .bool (near band count known c), .int .i64 0] := by simp [levelR, hg]
    have HV := Aside0.mk hV
    clear hV
    refine (alt_yes w4 c HT.out hg).mono ?_
    rintro e w5 ⟨rfl, hb⟩
    replace HI := Aside0.mk (HI.out.below hb)
    replace HT := Aside0.mk (HT.out.below hb)
    replace X2 := blk_below X2 hb
    replace X4 := blk_below X4 hb
    replace X5 := blk_below X5 hb
    replace X6 := blk_below X6 hb
    replace L1 := below_step L1 hb
    have HB := Aside0.mk L1
    clear hb L1
    have HX2 := Aside0.mk X2
    have HX4 := Aside0.mk X4
    have HX5 := Aside0.mk X5
    have HX6 := Aside0.mk X6
    have c4 : w5.cell? ⟨b4, 0, none⟩ = some (.int .i64 0) := (blk_cell X4 0).trans rfl
    have c5 : w5.cell? ⟨b5, 0, none⟩ = some (.int .i64 0) := (blk_cell X5 0).trans rfl
    have c6 : w5.cell? ⟨b6, 0, none⟩ = some (.bool false) := (blk_cell X6 0).trans rfl
    have f4 := blk_frozen X4 0
    have f5 := blk_frozen X5 0
    have f6 := blk_frozen X6 0
    clear X2 X4 X5 X6
    have hne5 : g ≠ b5 := HI.out.ne_blk HX5.out (by decide)
    have hne6 : g ≠ b6 := HI.out.ne_blk HX6.out (by decide)
    have hne4 : g ≠ b4 := HI.out.ne_blk HX4.out (by decide)
    go_upto_region 4 with fail
    replace HX2 := Aside0.mk (blk_far HX2.out (p := ⟨b4, 0, none⟩) d24 (.int .i64 (alt c)))
    replace HX4 := Aside0.mk (blk_set HX4.out 0 (.int .i64 (alt c)))
    replace HX5 := Aside0.mk (blk_far HX5.out (p := ⟨b4, 0, none⟩) (Ne.symm d45) (.int .i64 (alt c)))
    replace HX6 := Aside0.mk (blk_far HX6.out (p := ⟨b4, 0, none⟩) (Ne.symm d46) (.int .i64 (alt c)))
    replace HI := Aside0.mk (IsS47.far HI.out (p := ⟨b4, 0, none⟩) hne4 (.int .i64 (alt c)))
    replace HB := Aside0.mk (HB.out.setCell (p := ⟨b4, 0, none⟩) g4 (.int .i64 (alt c)))
    clear c4 c5 c6 f4 f5 f6 HT
    generalize w5.setCell ⟨b4, 0, none⟩ (.int .i64 (alt c)) = w6 at HX2 HX4 HX5 HX6 HI HB ⊢
    obtain ⟨nr, hnr⟩ : ∃ nr, nr = near band count known c := ⟨_, rfl⟩
    obtain ⟨z, hz⟩ : ∃ z, z = alt c := ⟨_, rfl⟩
    rw [← hz] at HX4 ⊢
    have HNR := Aside0.mk hnr
    have HZZ := Aside0.mk hz
    clear hnr hz
    refine wp_calm ?_
-- REGION
    refine start_ (n := 9) (S := fun w' => w'.cell? ⟨n, 0, none⟩ = some (.pointer (some ⟨g, 0, none⟩)) ∧ w'.cell? ⟨g, 1, none⟩ = some (.int .i64 noise)) (ds := []) #[false, false, false, false, false, false, false, false, false] (by kernel_rfl) rfl rfl ⟨(blk_cell HX2.out 0).trans rfl, cellS47_1 HI.out.1⟩ (fun hHeld => ?_)
    replace HX2 := Aside0.mk (blk_drew HX2.out)
    replace HX4 := Aside0.mk (blk_drew HX4.out)
    replace HX5 := Aside0.mk (blk_drew HX5.out)
    replace HX6 := Aside0.mk (blk_drew HX6.out)
    replace HI := Aside0.mk (IsS47.drew HI.out)
    replace HB := Aside0.mk (below_drew HB.out)
    generalize w6.drew = w7 at HX2 HX4 HX5 HX6 HI HB hHeld ⊢
    refine take_ (i := 0) (N := (some 16)) (v := ?_) (a' := ?_) #[true, false, false, false, false, false, false, false, false] rfl rfl (by kernel_rfl) (fun _ _ _ h => h) (Or.inl ⟨by rfl, ?_⟩) hHeld ?_ ?_
    rotate_left
    · rintro w' ⟨s0, s1⟩
      go_simp
      with_reducible rfl
    rotate_left
    · simp only [Act.put, List.setIfInBounds_toArray, List.set_cons_zero, List.set_cons_succ, i64_w, i32_w]
      rfl
    refine pure_ (i := 1) (N := (some 17)) (v := ?_) (a' := ?_) #[true, true, false, false, false, false, false, false, false] rfl rfl (by kernel_rfl) (fun _ _ _ h => h) (Or.inl ⟨by rfl, ?_⟩) ?_ ?_
    rotate_left
    · intro w'
      go_simp
      with_reducible rfl
    rotate_left
    · simp only [Act.put, List.setIfInBounds_toArray, List.set_cons_zero, List.set_cons_succ, i64_w, i32_w]
      rfl
    refine pure_ (i := 2) (N := (some 18)) (v := ?_) (a' := ?_) #[true, true, true, false, false, false, false, false, false] rfl rfl (by kernel_rfl) (fun _ _ _ h => h) (Or.inl ⟨by rfl, ?_⟩) ?_ ?_
    rotate_left
    · intro w'
      go_simp
      with_reducible rfl
    rotate_left
    · simp only [Act.put, List.setIfInBounds_toArray, List.set_cons_zero, List.set_cons_succ, i64_w, i32_w]
      rfl
    refine take_ (i := 3) (N := (some 19)) (v := ?_) (a' := ?_) #[true, true, true, true, false, false, false, false, false] rfl rfl (by kernel_rfl) (fun _ _ _ h => h) (Or.inl ⟨by rfl, ?_⟩) hHeld ?_ ?_
    rotate_left
    · rintro w' ⟨s0, s1⟩
      go_simp
      with_reducible rfl
    rotate_left
    · simp only [Act.put, List.setIfInBounds_toArray, List.set_cons_zero, List.set_cons_succ, i64_w, i32_w]
      rfl
    refine take_ (i := 4) (N := (some 20)) (v := ?_) (a' := ?_) #[true, true, true, true, true, false, false, false, false] rfl rfl (by kernel_rfl) (fun _ _ _ h => h) (Or.inl ⟨by rfl, ?_⟩) hHeld ?_ ?_
    rotate_left
    · rintro w' ⟨s0, s1⟩
      go_simp
      with_reducible rfl
    rotate_left
    · simp only [Act.put, List.setIfInBounds_toArray, List.set_cons_zero, List.set_cons_succ, i64_w, i32_w]
      rfl
    refine pure_ (i := 5) (N := (some 21)) (v := ?_) (a' := ?_) #[true, true, true, true, true, true, false, false, false] rfl rfl (by kernel_rfl) (fun _ _ _ h => h) (Or.inl ⟨by rfl, ?_⟩) ?_ ?_
    rotate_left
    · intro w'
      go_simp
      with_reducible rfl
    rotate_left
    · simp only [Act.put, List.setIfInBounds_toArray, List.set_cons_zero, List.set_cons_succ, i64_w, i32_w]
      rfl
    refine one_ (i := 6) (N := (some 22)) #[true, true, true, true, true, true, true, false, false] rfl rfl (by kernel_rfl) (by decide) (fun K hK => ?_)
    refine goes_ Tryd.func13 (by kernel_rfl) rfl #[.pointer (some ⟨g, 0, none⟩), .int .i64 c] (by rfl) rfl rfl (by (try simp only [List.map_toArray, List.map_cons, List.map_nil]); first | done | rfl) ?_
    refine (near_any w0 w7 g band noise rough count known c HI.out).mono ?_
    rw [← HNR.out]
    rintro e w8 ⟨rfl, hb⟩
    replace HX2 := Aside0.mk (blk_below HX2.out hb)
    replace HX4 := Aside0.mk (blk_below HX4.out hb)
    replace HX5 := Aside0.mk (blk_below HX5.out hb)
    replace HX6 := Aside0.mk (blk_below HX6.out hb)
    replace HI := Aside0.mk (HI.out.below hb)
    replace HB := Aside0.mk (below_step HB.out hb)
    clear hb hHeld
    refine ⟨_, rfl, ?_⟩
    refine hK.out _ _ ⟨(blk_cell HX2.out 0).trans rfl, cellS47_1 HI.out.1⟩ (fun hHeld => ?_)
    clear hK K
    refine norm_ (a' := ?_) ?_ ?_
    rotate_left
    · show Act.put _ (some 22) _ = _
      simp only [Act.put, List.setIfInBounds_toArray, List.set_cons_zero, List.set_cons_succ, i64_w, i32_w]
      rfl
    have cc : w8.cell? ⟨b5, 0, none⟩ = some (.int .i64 0) := (blk_cell HX5.out 0).trans rfl
    have ff := blk_frozen HX5.out 0
    refine one_ (i := 7) (N := none) #[true, true, true, true, true, true, true, true, false] rfl rfl (by kernel_rfl) (by decide) (fun K hK => ?_)
    refine skip_ (w1 := w8.setCell ⟨b5, 0, none⟩ (.int .i64 noise)) (by rfl) rfl (by first | (go_simp; done) | (go_simp; rfl)) ?_
    replace HX2 := Aside0.mk (blk_far HX2.out (p := ⟨b5, 0, none⟩) (by first | assumption | (exact Ne.symm (by assumption))) (.int .i64 noise))
    replace HX4 := Aside0.mk (blk_far HX4.out (p := ⟨b5, 0, none⟩) (by first | assumption | (exact Ne.symm (by assumption))) (.int .i64 noise))
    replace HX5 := Aside0.mk (blk_set HX5.out 0 (.int .i64 noise))
    replace HX6 := Aside0.mk (blk_far HX6.out (p := ⟨b5, 0, none⟩) (by first | assumption | (exact Ne.symm (by assumption))) (.int .i64 noise))
    replace HI := Aside0.mk (IsS47.far HI.out (p := ⟨b5, 0, none⟩) (by first | assumption | (exact Ne.symm (by assumption))) (.int .i64 noise))
    replace HB := Aside0.mk (HB.out.setCell (p := ⟨b5, 0, none⟩) g5 (.int .i64 noise))
    clear cc ff hHeld
    generalize w8.setCell ⟨b5, 0, none⟩ (.int .i64 noise) = w9 at HX2 HX4 HX5 HX6 HI HB ⊢
    refine hK.out _ _ ⟨(blk_cell HX2.out 0).trans rfl, cellS47_1 HI.out.1⟩ (fun hHeld => ?_)
    clear hK K
    have cc : w9.cell? ⟨b6, 0, none⟩ = some (.bool false) := (blk_cell HX6.out 0).trans rfl
    have ff := blk_frozen HX6.out 0
    refine one_ (i := 8) (N := none) #[true, true, true, true, true, true, true, true, true] rfl rfl (by kernel_rfl) (by decide) (fun K hK => ?_)
    refine skip_ (w1 := w9.setCell ⟨b6, 0, none⟩ (.bool nr)) (by rfl) rfl (by first | (go_simp; done) | (go_simp; rfl)) ?_
    replace HX2 := Aside0.mk (blk_far HX2.out (p := ⟨b6, 0, none⟩) (by first | assumption | (exact Ne.symm (by assumption))) (.bool nr))
    replace HX4 := Aside0.mk (blk_far HX4.out (p := ⟨b6, 0, none⟩) (by first | assumption | (exact Ne.symm (by assumption))) (.bool nr))
    replace HX5 := Aside0.mk (blk_far HX5.out (p := ⟨b6, 0, none⟩) (by first | assumption | (exact Ne.symm (by assumption))) (.bool nr))
    replace HX6 := Aside0.mk (blk_set HX6.out 0 (.bool nr))
    replace HI := Aside0.mk (IsS47.far HI.out (p := ⟨b6, 0, none⟩) (by first | assumption | (exact Ne.symm (by assumption))) (.bool nr))
    replace HB := Aside0.mk (HB.out.setCell (p := ⟨b6, 0, none⟩) g6 (.bool nr))
    clear cc ff hHeld
    generalize w9.setCell ⟨b6, 0, none⟩ (.bool nr) = w10 at HX2 HX4 HX5 HX6 HI HB ⊢
    refine hK.out _ _ ⟨(blk_cell HX2.out 0).trans rfl, cellS47_1 HI.out.1⟩ (fun hHeld => ?_)
    clear hK K
    refine done_ (by kernel_rfl) ?_
-- END
    dsimp only
    go_upto_region 6 with fail
    have c4 : w10.cell? ⟨b4, 0, none⟩ = some (.int .i64 z) := (blk_cell HX4.out 0).trans rfl
    have c5 : w10.cell? ⟨b5, 0, none⟩ = some (.int .i64 noise) := (blk_cell HX5.out 0).trans rfl
    have c6 : w10.cell? ⟨b6, 0, none⟩ = some (.bool nr) := (blk_cell HX6.out 0).trans rfl
    have f4 := blk_frozen HX4.out 0
    have f5 := blk_frozen HX5.out 0
    have f6 := blk_frozen HX6.out 0
    clear hHeld
    go_region
    clear c4 c5 c6 f4 f5 f6
    replace HX2 := Aside0.mk (blk_drew (blk_far (blk_far (blk_far HX2.out (p := ⟨b4, 0, none⟩) d24 (.int .i64 z)) (p := ⟨b5, 0, none⟩) d25 (.int .i64 noise)) (p := ⟨b6, 0, none⟩) d26 (.bool nr)))
    replace HX4 := Aside0.mk (blk_drew (blk_far (blk_far (blk_set HX4.out 0 (.int .i64 z)) (p := ⟨b5, 0, none⟩) d45 (.int .i64 noise)) (p := ⟨b6, 0, none⟩) d46 (.bool nr)))
    replace HX5 := Aside0.mk (blk_drew (blk_far (blk_set (blk_far HX5.out (p := ⟨b4, 0, none⟩) (Ne.symm d45) (.int .i64 z)) 0 (.int .i64 noise)) (p := ⟨b6, 0, none⟩) d56 (.bool nr)))
    replace HX6 := Aside0.mk (blk_drew (blk_set (blk_far (blk_far HX6.out (p := ⟨b4, 0, none⟩) (Ne.symm d46) (.int .i64 z)) (p := ⟨b5, 0, none⟩) (Ne.symm d56) (.int .i64 noise)) 0 (.bool nr)))
    replace HI := Aside0.mk (IsS47.drew (IsS47.far (IsS47.far (IsS47.far HI.out (p := ⟨b4, 0, none⟩) hne4 (.int .i64 z)) (p := ⟨b5, 0, none⟩) hne5 (.int .i64 noise)) (p := ⟨b6, 0, none⟩) hne6 (.bool nr)))
    replace HB := Aside0.mk (below_drew (((HB.out.setCell (p := ⟨b4, 0, none⟩) g4 (.int .i64 z)).setCell (p := ⟨b5, 0, none⟩) g5 (.int .i64 noise)).setCell (p := ⟨b6, 0, none⟩) g6 (.bool nr)))
    generalize (((w10.setCell ⟨b4, 0, none⟩ (.int .i64 z)).setCell ⟨b5, 0, none⟩ (.int .i64 noise)).setCell ⟨b6, 0, none⟩ (.bool nr)).drew = w11 at HX2 HX4 HX5 HX6 HI HB ⊢
    go_wp2_with fail
    refine leaves_cons (f := 18) (args := #[.pointer (some ⟨b6, 0, none⟩), .pointer (some ⟨n, 0, none⟩), .pointer (some ⟨b4, 0, none⟩), .pointer (some ⟨b5, 0, none⟩)]) (by simp) (by simp [go_sem]) ?_
    refine (level1_any w0 w w11 .returning b6 n b4 b5 g band noise rough count z noise known nr HX6.out HX2.out HX4.out HX5.out HI.out (HT0.out.below HB.out) d45 g4 g5 HB.out).mono ?_
    rintro e u' w12 ⟨rfl, rfl, h4, h5, h6, hb⟩
    have r4 : w12.cell? ⟨b4, 0, none⟩ = some (.int .i64 (if nr then mx z (altv count) else z)) := (blk_cell h4 0).trans rfl
    have r5 : w12.cell? ⟨b5, 0, none⟩ = some (.int .i64 (if nr then rough else noise)) := (blk_cell h5 0).trans rfl
    have r6 : w12.cell? ⟨b6, 0, none⟩ = some (.bool nr) := (blk_cell h6 0).trans rfl
    replace HV := HV.out
    rw [← HNR.out, ← HZZ.out] at HV
    clear HX2 HX4 HX5 HX6 h4 h5 h6
    generalize (if nr then mx z (altv count) else z) = zz at r4 HV
    generalize (if nr then rough else noise) = nn at r5 HV
    refine ⟨.tuple #[.int .i64 zz, .int .i64 nn, .bool nr, .int .i64 0], ?_, congrArg Ending.returned HV.symm, hb⟩
    simp [results, Tryd.results10, go_sem, r4, r5, r6]
end Go.Proofs.YtofmingbmcinhaaDoor.Gd
