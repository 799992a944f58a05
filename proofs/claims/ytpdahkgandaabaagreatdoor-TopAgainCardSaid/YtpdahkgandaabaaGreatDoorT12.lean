/- A part of the proof of TopAgain, where the package's tables hold what their initialisers lay. -/
import Derived.Defers
import Derived.Deep.MidRow
import Derived.Test.YtpdahkgandaabaaGreatDoorT01
import Derived.Test.YtpdahkgandaabaaGreatDoorT06
import Derived.Test.YtpdahkgandaabaaGreatDoorT09
import Derived.Test.YtpdahkgandaabaaGreatDoorT10
import Derived.Test.YtpdahkgandaabaaGreatDoorT11
namespace Go.Proofs.YtpdahkgandaabaaGreatDoor.Ch
open Go.RowKit Go.Proofs.YtpdahkgandaabaaGreatDoorW.PrintWords Go.Proofs.YtpdahkgandaabaaGreatDoorW.PrintLast Go.Proofs.YtpdahkgandaabaaGreatDoorW.PrintMore Go.Proofs.YtpdahkgandaabaaGreatDoor.PTopNames Go.Proofs.YtpdahkgandaabaaGreatDoor.Al
attribute [local go_sem] max2_int min2_int max_two min_two max_three min_three max_four min_four
set_option linter.unusedVariables false
set_option linter.unusedSimpArgs false
def near (band count : Int) (known : Bool) (c : Int) : Bool := good c && (known && decide (wrap64 (count - c) ≤ band))
set_option maxRecDepth 100000 in
set_option maxHeartbeats 4000000 in
theorem near_any (w0 w : World) (g : Nat) (band noise rough count : Int) (known : Bool) (c : Int) (hI : IsS93 w0 w g band noise rough count known) :
  Calls Tryz.prog 103 #[.pointer (some ⟨g, 0, none⟩), c] w fun e w' => e = .returned (.bool (near band count known c)) ∧ Below w.heap.size w w' := by
 have x0 := cellS93_0 hI.1
 have x3 := cellS93_3 hI.1
 have x4 := cellS93_4 hI.1
 clear hI
 have HB := am (Below.refl w.heap.size w)
 cases hg : good c with
 | false =>
  have hr : near band count known c = false := by simp [near, hg]
  rw [hr]
  clear hr
  go_enter Tryz.func103, Tryz.ntmps103
  go_upto_region 1 with fail
  refine s_t 22 (fun w' => w'.cell? ⟨g, 0, none⟩ = some (.int .i64 band) ∧ w'.cell? ⟨g, 3, none⟩ = some (.int .i64 count) ∧ w'.cell? ⟨g, 4, none⟩ = some (.bool known)) ⟨x0, x3, x4⟩ (fun hHeld => ?_)
  refine p_u 0 5 22 1 ?_
  refine o_n 1 6 22 3 fun K hK => ?_
  refine g_s Tryz.func91 #[c] ?_
  with_reducible refine (good_is _ c false hg).mono ?_
  rintro e wc ⟨rfl, hb⟩
  replace HB : Aside0 (Below w.heap.size w wc) := ⟨by first | exact below_step HB.out hb | exact below_step (below_drew HB.out) hb⟩
  refine ⟨_, rfl, ?_⟩
  have hSc := hHeld
  clear hHeld
  obtain ⟨s0, s1, s2⟩ := hSc
  refine hK.out _ _ ⟨pw_cell_below hb s0, pw_cell_below hb s1, pw_cell_below hb s2⟩ (fun hHeld => ?_)
  clear hK K hb s0 s1 s2
  refine n_o 6 ?_
  refine p_u 2 7 22 7 ?_
  refine p_v 3 8 22 15 ?_
  refine p_v 4 9 22 31 ?_
  refine p_v 5 10 22 63 ?_
  refine p_v 6 11 22 127 ?_
  refine p_u 7 12 22 255 ?_
  refine p_u 8 13 22 511 ?_
  refine p_v 9 14 22 1023 ?_
  refine p_v 10 15 22 2047 ?_
  refine p_v 11 16 22 4095 ?_
  refine p_v 12 17 22 8191 ?_
  refine p_v 13 18 22 16383 ?_
  refine p_v 14 19 22 32767 ?_
  refine p_v 15 20 22 65535 ?_
  refine p_v 16 21 22 131071 ?_
  refine p_v 17 22 22 262143 ?_
  refine p_v 18 23 22 524287 ?_
  refine p_v 19 24 22 1048575 ?_
  refine p_u 20 25 22 2097151 ?_
  refine p_u 21 4 22 4194303 ?_
  refine d_n ?_
  go_wp2_with fail
  go_ret
  exact ⟨by simp, HB.out⟩
 | true =>
  cases known with
  | false =>
   have hr : near band count false c = false := by simp [near]
   rw [hr]
   clear hr
   go_enter Tryz.func103, Tryz.ntmps103
   go_upto_region 1 with fail
   refine s_t 22 (fun w' => w'.cell? ⟨g, 0, none⟩ = some (.int .i64 band) ∧ w'.cell? ⟨g, 3, none⟩ = some (.int .i64 count) ∧ w'.cell? ⟨g, 4, none⟩ = some (.bool false)) ⟨x0, x3, x4⟩ (fun hHeld => ?_)
   refine p_u 0 5 22 1 ?_
   refine o_n 1 6 22 3 fun K hK => ?_
   refine g_s Tryz.func91 #[c] ?_
   with_reducible refine (good_is _ c true hg).mono ?_
   rintro e wc ⟨rfl, hb⟩
   replace HB : Aside0 (Below w.heap.size w wc) := ⟨by first | exact below_step HB.out hb | exact below_step (below_drew HB.out) hb⟩
   refine ⟨_, rfl, ?_⟩
   have hSc := hHeld
   clear hHeld
   obtain ⟨s0, s1, s2⟩ := hSc
   refine hK.out _ _ ⟨pw_cell_below hb s0, pw_cell_below hb s1, pw_cell_below hb s2⟩ (fun hHeld => ?_)
   clear hK K hb s0 s1 s2
   refine n_o 6 ?_
   refine p_u 2 7 22 7 ?_
   refine p_u 3 8 22 15 ?_
   refine p_u 4 9 22 31 ?_
   refine p_u 5 10 22 63 ?_
   refine t_a 6 11 22 127 hHeld ?_ (hv := by rintro w' ⟨s0, s1, s2⟩; go_simp; with_reducible rfl)
   refine p_u 7 12 22 255 ?_
   refine p_u 8 13 22 511 ?_
   refine p_v 9 14 22 1023 ?_
   refine p_v 10 15 22 2047 ?_
   refine p_v 11 16 22 4095 ?_
   refine p_v 12 17 22 8191 ?_
   refine p_v 13 18 22 16383 ?_
   refine p_v 14 19 22 32767 ?_
   refine p_v 15 20 22 65535 ?_
   refine p_v 16 21 22 131071 ?_
   refine p_v 17 22 22 262143 ?_
   refine p_v 18 23 22 524287 ?_
   refine p_v 19 24 22 1048575 ?_
   refine p_u 20 25 22 2097151 ?_
   refine p_u 21 4 22 4194303 ?_
   refine d_n ?_
   go_wp2_with fail
   go_ret
   exact ⟨by simp, HB.out⟩
  | true =>
   have hr : near band count true c = decide (wrap64 (count - c) ≤ band) := by simp [near, hg]
   rw [hr]
   clear hr
   go_enter Tryz.func103, Tryz.ntmps103
   go_upto_region 1 with fail
   refine s_t 22 (fun w' => w'.cell? ⟨g, 0, none⟩ = some (.int .i64 band) ∧ w'.cell? ⟨g, 3, none⟩ = some (.int .i64 count) ∧ w'.cell? ⟨g, 4, none⟩ = some (.bool true)) ⟨x0, x3, x4⟩ (fun hHeld => ?_)
   refine p_u 0 5 22 1 ?_
   refine o_n 1 6 22 3 fun K hK => ?_
   refine g_s Tryz.func91 #[c] ?_
   with_reducible refine (good_is _ c true hg).mono ?_
   rintro e wc ⟨rfl, hb⟩
   replace HB : Aside0 (Below w.heap.size w wc) := ⟨by first | exact below_step HB.out hb | exact below_step (below_drew HB.out) hb⟩
   refine ⟨_, rfl, ?_⟩
   have hSc := hHeld
   clear hHeld
   obtain ⟨s0, s1, s2⟩ := hSc
   refine hK.out _ _ ⟨pw_cell_below hb s0, pw_cell_below hb s1, pw_cell_below hb s2⟩ (fun hHeld => ?_)
   clear hK K hb s0 s1 s2
   refine n_o 6 ?_
   refine p_u 2 7 22 7 ?_
   refine p_u 3 8 22 15 ?_
   refine p_u 4 9 22 31 ?_
   refine p_u 5 10 22 63 ?_
   refine t_a 6 11 22 127 hHeld ?_ (hv := by rintro w' ⟨s0, s1, s2⟩; go_simp; with_reducible rfl)
   refine p_u 7 12 22 255 ?_
   refine p_u 8 13 22 511 ?_
   refine p_u 9 14 22 1023 ?_
   refine p_u 10 15 22 2047 ?_
   refine p_u 11 16 22 4095 ?_
   refine t_a 12 17 22 8191 hHeld ?_ (hv := by rintro w' ⟨s0, s1, s2⟩; go_simp; with_reducible rfl)
   refine p_u 13 18 22 16383 ?_
   refine p_u 14 19 22 32767 ?_
   refine p_u 15 20 22 65535 ?_
   refine p_u 16 21 22 131071 ?_
   refine p_u 17 22 22 262143 ?_
   refine t_a 18 23 22 524287 hHeld ?_ (hv := by rintro w' ⟨s0, s1, s2⟩; go_simp; with_reducible rfl)
   refine p_u 19 24 22 1048575 ?_
   refine p_u 20 25 22 2097151 ?_
   refine p_u 21 4 22 4194303 ?_
   refine d_n ?_
   go_wp2_with fail
   go_ret
   exact ⟨by simp, HB.out⟩
def altv (c : Int) : Int := if good c then alt c else 0
set_option maxRecDepth 100000 in
set_option maxHeartbeats 4000000 in
theorem level1_any (w0 wb w : World) (u : FrameMode) (bn bg ba bz g : Nat) (band noise rough count z zn : Int) (known nr : Bool)
  (hn : w.heap[bn]? = some (.cells #[.bool nr] 4 (0, 0))) (hg : w.heap[bg]? = some (.cells #[.pointer (some ⟨g, 0, none⟩)] 52 (0, 0)))
  (ha : w.heap[ba]? = some (.cells #[z] 2 (0, 0))) (hz : w.heap[bz]? = some (.cells #[zn] 2 (0, 0)))
  (hI : IsS93 w0 w g band noise rough count known) (hT : Tab w) (hne : ba ≠ bz) (hba : wb.heap.size ≤ ba) (hbz : wb.heap.size ≤ bz) (hB : Below wb.heap.size wb w) :
  CallsD Tryz.prog 104 #[.pointer (some ⟨bn, 0, none⟩), .pointer (some ⟨bg, 0, none⟩), .pointer (some ⟨ba, 0, none⟩), .pointer (some ⟨bz, 0, none⟩)] u w fun e u' w' => u' = u ∧ (e = .returned (.tuple #[]) ∧
   w'.heap[ba]? = some (.cells #[.int .i64 (if nr then mx z (altv count) else z)] 2 (0, 0)) ∧ w'.heap[bz]? = some (.cells #[.int .i64 (if nr then rough else zn)] 2 (0, 0)) ∧
   w'.heap[bn]? = some (.cells #[.bool nr] 4 (0, 0)) ∧ Below wb.heap.size wb w') := by
 have HI := am hI
 have HB := am hB
 have HN := am hn
 have HG := am hg
 have HA := am ha
 have HZ := am hz
 have HT := am hT
 have nb : bn ≠ ba := by rintro rfl; rw [hn] at ha; simp at ha
 have nz : bn ≠ bz := by rintro rfl; rw [hn] at hz; simp at hz
 have x0 := (blk_cell hn 0).trans rfl
 clear hn hg ha hz hI hB hT
 cases nr with
 | false =>
  go_enter_d Tryz.func104, Tryz.ntmps104
  go_wp2_with fail
  go_end0
  exact ⟨rfl, HA.out, HZ.out, HN.out, HB.out⟩
 | true =>
  have x1 := (blk_cell HG.out 0).trans rfl
  have x2 := cellS93_3 HI.out.1
  go_enter_d Tryz.func104, Tryz.ntmps104
  go_wp2_with fail
  refine (alt_any w count HT.out).mono ?_
  rintro e w1 ⟨rfl, hb⟩
  replace HI := am (HI.out.below hb)
  replace HN := b_b HN hb
  replace HG := b_b HG hb
  replace HA := b_b HA hb
  replace HZ := b_b HZ hb
  replace HB := b_s HB hb
  clear x0 x1 x2 hb
  rw [show (if good count then alt count else 0) = altv count from rfl]
  obtain ⟨low, hlow⟩ : ∃ low, low = altv count := ⟨_, rfl⟩
  rw [← hlow]
  have HL := am hlow
  clear hlow
  have x1 := (blk_cell HG.out 0).trans rfl
  have x2 := (blk_cell HA.out 0).trans rfl
  have x3 := cellS93_2 HI.out.1
  have x4 := (blk_cell HZ.out 0).trans rfl
  have f2 := b_z HA 0
  have f4 := b_z HZ 0
  go_upto_region 2 with fail
  go_region
  go_end0
  rw [← HL.out]
  refine ⟨rfl, ?_, ?_, ?_, ?_⟩
  ·
   exact blk_drew (by simpa [mx] using blk_far (blk_set HA.out 0 (.int .i64 (if z < low then low else z))) hne (.int .i64 rough))
  ·
   exact blk_drew (by simpa using blk_set (blk_far HZ.out (Ne.symm hne) (.int .i64 (if z < low then low else z))) 0 (.int .i64 rough))
  ·
   exact blk_drew (blk_far (blk_far HN.out nb _) nz _)
  exact below_drew ((HB.out.setCell (p := ⟨ba, 0, none⟩) hba _).setCell (p := ⟨bz, 0, none⟩) hbz _)
def levelR (band noise rough count : Int) (known : Bool) (c : Int) : Value :=
 .tuple #[.int .i64 (if good c then (if near band count known c then mx (alt c) (altv count) else alt c) else 0), .int .i64 (if good c then (if near band count known c then rough else noise) else 0),
  .bool (near band count known c), .int .i64 (if good c then 0 else 2)]
theorem wp_calm {P : Program} {c : Code} {Q : Exit → Act → World → Prop} {a : Act} {w : World} (h : c.wp P (fun e a w => match e with | .panic _ => False | e => Q e a w) a w) : c.wp P Q a w :=
 Code.wp_mono (fun e a w h => by cases e <;> first | exact h | exact h.elim) h
theorem size_alloc (w : World) (o : Obj) : (w.alloc o).heap.size = w.heap.size + 1 := by
 unfold World.alloc
 exact Array.size_push _
theorem altL_no (w : World) (c : Int) (hT : Tab w) (h : good c = false) :
  Calls Tryz.prog 65 #[c] w fun e w' => e = .returned (.tuple #[(), .int .i64 2]) ∧ Below w.heap.size w w' := by
 have := alt_any w c hT
 simp only [h, Bool.false_eq_true, if_false] at this
 exact this
theorem altL_yes (w : World) (c : Int) (hT : Tab w) (h : good c = true) :
  Calls Tryz.prog 65 #[c] w fun e w' => e = .returned (.tuple #[.int .i64 (alt c), ()]) ∧ Below w.heap.size w w' := by
 have := alt_any w c hT
 simp only [h, if_true] at this
 exact this
set_option maxRecDepth 100000 in
set_option maxHeartbeats 4000000 in
theorem level_any (w0 w : World) (g : Nat) (band noise rough count : Int) (known : Bool) (c : Int) (hI : IsS93 w0 w g band noise rough count known) (hT : Tab w) :
  Calls Tryz.prog 71 #[.pointer (some ⟨g, 0, none⟩), c] w fun e w' => e = .returned (levelR band noise rough count known c) ∧ Below w.heap.size w w' := by
 have HI := am hI
 have HT := am hT
 have HT0 := am hT
 have hmk := mk_func
 clear hI hT
 go_enter_defers Tryz.func71, Tryz.ntmps71
 go_wp2_with fail
 obtain ⟨n, hn⟩ : ∃ n, n = w.heap.size := ⟨_, rfl⟩
 have X2 := blk_new w (.cells #[.pointer (some ⟨g, 0, none⟩)] 52)
 have L1 := below_alloc (Below.refl w.heap.size w) (.cells #[.pointer (some ⟨g, 0, none⟩)] 52)
 have s1 : (w.alloc (.cells #[.pointer (some ⟨g, 0, none⟩)] 52)).heap.size = w.heap.size + 1 := size_alloc _ _
 rw [← hn] at X2 s1 ⊢
 generalize w.alloc (.cells #[.pointer (some ⟨g, 0, none⟩)] 52) = w1 at X2 L1 s1 ⊢
 have X4 := blk_new w1 (.cells #[()] 2)
 replace X2 := blk_alloc X2 (.cells #[()] 2)
 replace L1 := below_alloc L1 (.cells #[()] 2)
 have s2 : (w1.alloc (.cells #[()] 2)).heap.size = n + 1 + 1 := (size_alloc _ _).trans (by rw [s1])
 rw [s1] at X4
 generalize w1.alloc (.cells #[()] 2) = w2 at X2 X4 L1 s2 ⊢
 clear s1
 have X5 := blk_new w2 (.cells #[()] 2)
 replace X2 := blk_alloc X2 (.cells #[()] 2)
 replace X4 := blk_alloc X4 (.cells #[()] 2)
 replace L1 := below_alloc L1 (.cells #[()] 2)
 have s3 : (w2.alloc (.cells #[()] 2)).heap.size = n + 1 + 1 + 1 := (size_alloc _ _).trans (by rw [s2])
 rw [s2] at X5
 generalize w2.alloc (.cells #[()] 2) = w3 at X2 X4 X5 L1 s3 ⊢
 clear s2
 have X6 := blk_new w3 (.cells #[.bool false] 4)
 replace X2 := blk_alloc X2 (.cells #[.bool false] 4)
 replace X4 := blk_alloc X4 (.cells #[.bool false] 4)
 replace X5 := blk_alloc X5 (.cells #[.bool false] 4)
 replace L1 := below_alloc L1 (.cells #[.bool false] 4)
 rw [s3] at X6
 generalize w3.alloc (.cells #[.bool false] 4) = w4 at X2 X4 X5 X6 L1 ⊢
 clear s3
 replace HI := am (HI.out.below L1)
 replace HT := am (HT.out.below L1)
 obtain ⟨b4, h4⟩ := e_x (n + 1)
 obtain ⟨b5, h5⟩ := e_x (n + 1 + 1)
 obtain ⟨b6, h6⟩ := e_x (n + 1 + 1 + 1)
 rw [← h6, ← h5, ← h4]
 rw [← h6] at X6
 rw [← h5] at X5
 rw [← h4] at X4
 have d45 : b4 ≠ b5 := by omega
 have d46 : b4 ≠ b6 := by omega
 have d56 : b5 ≠ b6 := by omega
 have d24 : n ≠ b4 := by omega
 have d25 : n ≠ b5 := by omega
 have d26 : n ≠ b6 := by omega
 have g4 : w.heap.size ≤ b4 := by omega
 have g5 : w.heap.size ≤ b5 := by omega
 have g6 : w.heap.size ≤ b6 := by omega
 clear hn h4 h5 h6
 cases hg : good c with
 | false =>
  refine (altL_no w4 c HT.out hg).mono ?_
  rintro e w5 ⟨rfl, hb⟩
  replace HI := am (HI.out.below hb)
  replace HT := am (HT.out.below hb)
  replace X2 := blk_below X2 hb
  replace X4 := blk_below X4 hb
  replace X5 := blk_below X5 hb
  replace X6 := blk_below X6 hb
  replace L1 := below_step L1 hb
  have HB := am L1
  clear hb L1
  have HX2 := am X2
  have HX4 := am X4
  have HX5 := am X5
  have HX6 := am X6
  have c4 := bcv X4 0 (.int .i64 0) rfl
  have c5 := bcv X5 0 (.int .i64 0) rfl
  have c6 := bcv X6 0 (.bool false) rfl
  have f4 := bfz X4 0
  have f5 := bfz X5 0
  have f6 := bfz X6 0
  clear X2 X4 X5 X6
  have hV : levelR band noise rough count known c = .tuple #[(), (), .bool false, .int .i64 2] := by simp [levelR, near, hg]
  have HV := am hV
  clear hV
  have z2 : ((2 : Int) != 0) = true := rfl
  go_wp2_with fail
  all_goals
   have q4 := blk_far (blk_far (blk_set (blk_set HX4.out 0 (.int .i64 0)) 0 (.int .i64 0)) (p := ⟨b5, 0, none⟩) d45 (.int .i64 0)) (p := ⟨b6, 0, none⟩) d46 (.bool false)
   have q5 := blk_far (blk_set (blk_far (blk_far HX5.out (p := ⟨b4, 0, none⟩) (Ne.symm d45) (.int .i64 0)) (p := ⟨b4, 0, none⟩) (Ne.symm d45) (.int .i64 0)) 0 (.int .i64 0)) (p := ⟨b6, 0, none⟩) d56 (.bool false)
   have q6 := blk_set (blk_far (blk_far (blk_far HX6.out (p := ⟨b4, 0, none⟩) (Ne.symm d46) (.int .i64 0)) (p := ⟨b4, 0, none⟩) (Ne.symm d46) (.int .i64 0)) (p := ⟨b5, 0, none⟩) (Ne.symm d56) (.int .i64 0)) 0 (.bool false)
   have qB := (((HB.out.setCell (p := ⟨b4, 0, none⟩) g4 (.int .i64 0)).setCell (p := ⟨b4, 0, none⟩) g4 (.int .i64 0)).setCell (p := ⟨b5, 0, none⟩) g5 (.int .i64 0)).setCell (p := ⟨b6, 0, none⟩) g6 (.bool false)
   generalize ((((w5.setCell ⟨b4, 0, none⟩ (.int .i64 0)).setCell ⟨b4, 0, none⟩ (.int .i64 0)).setCell ⟨b5, 0, none⟩ (.int .i64 0)).setCell ⟨b6, 0, none⟩ (.bool false)) = W at q4 q5 q6 qB ⊢
   have r4 := bcv q4 0 (.int .i64 0) rfl
   have r5 := bcv q5 0 (.int .i64 0) rfl
   have r6 := bcv q6 0 (.bool false) rfl
   clear q4 q5 q6 c4 c5 c6 f4 f5 f6
   refine ⟨.tuple #[(), (), .bool false, .int .i64 2], ?_, congrArg Ending.returned HV.out.symm, qB⟩
   simp [results, Tryz.results71, go_sem, r4, r5, r6]
 | true =>
  have hV : levelR band noise rough count known c = .tuple #[.int .i64 (if near band count known c then mx (alt c) (altv count) else alt c), .int .i64 (if near band count known c then rough else noise), .bool (near band count known c), ()] := by simp [levelR, hg]
  have HV := am hV
  clear hV
  refine (altL_yes w4 c HT.out hg).mono ?_
  rintro e w5 ⟨rfl, hb⟩
  replace HI := am (HI.out.below hb)
  replace HT := am (HT.out.below hb)
  replace X2 := blk_below X2 hb
  replace X4 := blk_below X4 hb
  replace X5 := blk_below X5 hb
  replace X6 := blk_below X6 hb
  replace L1 := below_step L1 hb
  have HB := am L1
  clear hb L1
  have HX2 := am X2
  have HX4 := am X4
  have HX5 := am X5
  have HX6 := am X6
  have c4 := bcv X4 0 (.int .i64 0) rfl
  have c5 := bcv X5 0 (.int .i64 0) rfl
  have c6 := bcv X6 0 (.bool false) rfl
  have f4 := bfz X4 0
  have f5 := bfz X5 0
  have f6 := bfz X6 0
  clear X2 X4 X5 X6
  have hne5 : g ≠ b5 := HI.out.ne_blk HX5.out (by decide)
  have hne6 : g ≠ b6 := HI.out.ne_blk HX6.out (by decide)
  have hne4 : g ≠ b4 := HI.out.ne_blk HX4.out (by decide)
  go_upto_region 4 with fail
  replace HX2 := am (blk_far HX2.out (p := ⟨b4, 0, none⟩) d24 (.int .i64 (alt c)))
  replace HX4 := am (blk_set HX4.out 0 (.int .i64 (alt c)))
  replace HX5 := am (blk_far HX5.out (p := ⟨b4, 0, none⟩) (Ne.symm d45) (.int .i64 (alt c)))
  replace HX6 := am (blk_far HX6.out (p := ⟨b4, 0, none⟩) (Ne.symm d46) (.int .i64 (alt c)))
  replace HI := am (IsS93.far HI.out (p := ⟨b4, 0, none⟩) hne4 (.int .i64 (alt c)))
  replace HB := am (HB.out.setCell (p := ⟨b4, 0, none⟩) g4 (.int .i64 (alt c)))
  clear c4 c5 c6 f4 f5 f6 HT
  generalize w5.setCell ⟨b4, 0, none⟩ (.int .i64 (alt c)) = w6 at HX2 HX4 HX5 HX6 HI HB ⊢
  obtain ⟨nr, hnr⟩ : ∃ nr, nr = near band count known c := ⟨_, rfl⟩
  obtain ⟨z, hz⟩ : ∃ z, z = alt c := ⟨_, rfl⟩
  rw [← hz] at HX4 ⊢
  have HNR := am hnr
  have HZZ := am hz
  clear hnr hz
  refine wp_calm ?_
  refine s_t 9 (fun w' => w'.cell? ⟨n, 0, none⟩ = some (.pointer (some ⟨g, 0, none⟩)) ∧ w'.cell? ⟨g, 1, none⟩ = some (.int .i64 noise)) ⟨(blk_cell HX2.out 0).trans rfl, cellS93_1 HI.out.1⟩ (fun hHeld => ?_)
  replace HX2 := b_d HX2
  replace HX4 := b_d HX4
  replace HX5 := b_d HX5
  replace HX6 := b_d HX6
  replace HI := am (IsS93.drew HI.out)
  replace HB := am (below_drew HB.out)
  generalize w6.drew = w7 at HX2 HX4 HX5 HX6 HI HB hHeld ⊢
  refine t_a 0 16 9 1 hHeld ?_
  refine p_u 1 17 9 3 ?_
  refine p_u 2 18 9 7 ?_
  refine t_a 3 19 9 15 hHeld ?_
  refine t_a 4 20 9 31 hHeld ?_
  refine p_u 5 21 9 63 ?_
  refine o_n 6 22 9 127 fun K hK => ?_
  refine g_s Tryz.func103 #[.pointer (some ⟨g, 0, none⟩), c] ?_
  refine (near_any w0 w7 g band noise rough count known c HI.out).mono ?_
  rw [← HNR.out]
  rintro e w8 ⟨rfl, hb⟩
  replace HX2 := b_b HX2 hb
  replace HX4 := b_b HX4 hb
  replace HX5 := b_b HX5 hb
  replace HX6 := b_b HX6 hb
  replace HI := am (HI.out.below hb)
  replace HB := b_s HB hb
  clear hb hHeld
  refine ⟨_, rfl, ?_⟩
  refine hK.out _ _ ⟨(blk_cell HX2.out 0).trans rfl, cellS93_1 HI.out.1⟩ (fun hHeld => ?_)
  clear hK K
  refine n_o 22 ?_
  have cc := b_v HX5 0 (.int .i64 0) rfl
  have ff := b_z HX5 0
  refine o_0 7 9 255 fun K hK => ?_
  refine s_k (w8.setCell ⟨b5, 0, none⟩ (.int .i64 noise)) ?_
  replace HX2 := am (blk_far HX2.out (p := ⟨b5, 0, none⟩) (by first | assumption | (exact Ne.symm (by assumption))) (.int .i64 noise))
  replace HX4 := am (blk_far HX4.out (p := ⟨b5, 0, none⟩) (by first | assumption | (exact Ne.symm (by assumption))) (.int .i64 noise))
  replace HX5 := am (blk_set HX5.out 0 (.int .i64 noise))
  replace HX6 := am (blk_far HX6.out (p := ⟨b5, 0, none⟩) (by first | assumption | (exact Ne.symm (by assumption))) (.int .i64 noise))
  replace HI := am (IsS93.far HI.out (p := ⟨b5, 0, none⟩) (by first | assumption | (exact Ne.symm (by assumption))) (.int .i64 noise))
  replace HB := am (HB.out.setCell (p := ⟨b5, 0, none⟩) g5 (.int .i64 noise))
  clear cc ff hHeld
  generalize w8.setCell ⟨b5, 0, none⟩ (.int .i64 noise) = w9 at HX2 HX4 HX5 HX6 HI HB ⊢
  refine hK.out _ _ ⟨(blk_cell HX2.out 0).trans rfl, cellS93_1 HI.out.1⟩ (fun hHeld => ?_)
  clear hK K
  have cc := b_v HX6 0 (.bool false) rfl
  have ff := b_z HX6 0
  refine o_0 8 9 511 fun K hK => ?_
  refine s_k (w9.setCell ⟨b6, 0, none⟩ (.bool nr)) ?_
  replace HX2 := am (blk_far HX2.out (p := ⟨b6, 0, none⟩) (by first | assumption | (exact Ne.symm (by assumption))) (.bool nr))
  replace HX4 := am (blk_far HX4.out (p := ⟨b6, 0, none⟩) (by first | assumption | (exact Ne.symm (by assumption))) (.bool nr))
  replace HX5 := am (blk_far HX5.out (p := ⟨b6, 0, none⟩) (by first | assumption | (exact Ne.symm (by assumption))) (.bool nr))
  replace HX6 := am (blk_set HX6.out 0 (.bool nr))
  replace HI := am (IsS93.far HI.out (p := ⟨b6, 0, none⟩) (by first | assumption | (exact Ne.symm (by assumption))) (.bool nr))
  replace HB := am (HB.out.setCell (p := ⟨b6, 0, none⟩) g6 (.bool nr))
  clear cc ff hHeld
  generalize w9.setCell ⟨b6, 0, none⟩ (.bool nr) = w10 at HX2 HX4 HX5 HX6 HI HB ⊢
  refine hK.out _ _ ⟨(blk_cell HX2.out 0).trans rfl, cellS93_1 HI.out.1⟩ (fun hHeld => ?_)
  clear hK K
  refine d_n ?_
  dsimp only
  go_upto_region 6 with fail
  have c4 := b_v HX4 0 (.int .i64 z) rfl
  have c5 := b_v HX5 0 (.int .i64 noise) rfl
  have c6 := b_v HX6 0 (.bool nr) rfl
  have f4 := b_z HX4 0
  have f5 := b_z HX5 0
  have f6 := b_z HX6 0
  clear hHeld
  go_region
  clear c4 c5 c6 f4 f5 f6
  replace HX2 := am (blk_drew (blk_far (blk_far (blk_far HX2.out (p := ⟨b4, 0, none⟩) d24 (.int .i64 z)) (p := ⟨b5, 0, none⟩) d25 (.int .i64 noise)) (p := ⟨b6, 0, none⟩) d26 (.bool nr)))
  replace HX4 := am (blk_drew (blk_far (blk_far (blk_set HX4.out 0 (.int .i64 z)) (p := ⟨b5, 0, none⟩) d45 (.int .i64 noise)) (p := ⟨b6, 0, none⟩) d46 (.bool nr)))
  replace HX5 := am (blk_drew (blk_far (blk_set (blk_far HX5.out (p := ⟨b4, 0, none⟩) (Ne.symm d45) (.int .i64 z)) 0 (.int .i64 noise)) (p := ⟨b6, 0, none⟩) d56 (.bool nr)))
  replace HX6 := am (blk_drew (blk_set (blk_far (blk_far HX6.out (p := ⟨b4, 0, none⟩) (Ne.symm d46) (.int .i64 z)) (p := ⟨b5, 0, none⟩) (Ne.symm d56) (.int .i64 noise)) 0 (.bool nr)))
  replace HI := am (IsS93.drew (IsS93.far (IsS93.far (IsS93.far HI.out (p := ⟨b4, 0, none⟩) hne4 (.int .i64 z)) (p := ⟨b5, 0, none⟩) hne5 (.int .i64 noise)) (p := ⟨b6, 0, none⟩) hne6 (.bool nr)))
  replace HB := am (below_drew (((HB.out.setCell (p := ⟨b4, 0, none⟩) g4 (.int .i64 z)).setCell (p := ⟨b5, 0, none⟩) g5 (.int .i64 noise)).setCell (p := ⟨b6, 0, none⟩) g6 (.bool nr)))
  generalize (((w10.setCell ⟨b4, 0, none⟩ (.int .i64 z)).setCell ⟨b5, 0, none⟩ (.int .i64 noise)).setCell ⟨b6, 0, none⟩ (.bool nr)).drew = w11 at HX2 HX4 HX5 HX6 HI HB ⊢
  go_wp2_with fail
  refine leaves_cons (f := 104) (args := #[.pointer (some ⟨b6, 0, none⟩), .pointer (some ⟨n, 0, none⟩), .pointer (some ⟨b4, 0, none⟩), .pointer (some ⟨b5, 0, none⟩)]) (by simp) (by simp [go_sem]) ?_
  refine (level1_any w0 w w11 .returning b6 n b4 b5 g band noise rough count z noise known nr HX6.out HX2.out HX4.out HX5.out HI.out (HT0.out.below HB.out) d45 g4 g5 HB.out).mono ?_
  rintro e u' w12 ⟨rfl, rfl, h4, h5, h6, hb⟩
  have r4 := bcv h4 0 (.int .i64 (if nr then mx z (altv count) else z)) rfl
  have r5 := bcv h5 0 (.int .i64 (if nr then rough else noise)) rfl
  have r6 := bcv h6 0 (.bool nr) rfl
  replace HV := HV.out
  rw [← HNR.out, ← HZZ.out] at HV
  clear HX2 HX4 HX5 HX6 h4 h5 h6
  generalize (if nr then mx z (altv count) else z) = zz at r4 HV
  generalize (if nr then rough else noise) = nn at r5 HV
  refine ⟨.tuple #[zz, nn, .bool nr, ()], ?_, congrArg Ending.returned HV.symm, hb⟩
  simp [results, Tryz.results71, go_sem, r4, r5, r6]
end Go.Proofs.YtpdahkgandaabaaGreatDoor.Ch
namespace Go.Proofs.YtpdahkgandaabaaGreatDoor.Ch
open Go.RowKit Go.Proofs.YtpdahkgandaabaaGreatDoorW.PrintWords Go.Proofs.YtpdahkgandaabaaGreatDoorW.PrintLast Go.Proofs.YtpdahkgandaabaaGreatDoorW.PrintMore Go.Proofs.YtpdahkgandaabaaGreatDoor.PTopNames Go.Proofs.YtpdahkgandaabaaGreatDoor.Al
set_option linter.unusedVariables false
set_option linter.unusedSimpArgs false
set_option maxRecDepth 100000 in
set_option maxHeartbeats 4000000 in
theorem add_any (w : World) (f : Nat) (c : Cf) (last run : Int) (held : Bool) (hF : w.heap[f]? = some (.cells (feedV last run c) 101 (0, 0))) :
  Calls Tryz.prog 69 #[.pointer (some ⟨f, 0, none⟩), .bool held] w fun e w' => e = .returned (if held then vec c.l0 c.l1 c.l2 else vec c.q0 c.q1 c.q2) ∧ Below w.heap.size w w' := by
 have HF := am hF
 clear hF
 unfold vec
 cases held with
 | true =>
  go_enter Tryz.func69, Tryz.ntmps69
  go_upto_region 1 with fail
  replace HF := am (blk_alloc HF.out (.cells #[(), (), ()] 26))
  have x4' := blk_new w (.cells #[(), (), ()] 26)
  have HB := am (below_alloc (Below.refl w.heap.size w) (.cells #[(), (), ()] 26))
  generalize w.alloc (.cells #[(), (), ()] 26) = w1 at x4' HB HF ⊢
  obtain ⟨b4, h4⟩ := e_x (w.heap.size)
  have g4 : w.heap.size ≤ b4 := by omega
  rw [← h4] at x4' ⊢
  have H4 := am x4'
  clear x4' h4
  have yf0 := b_v HF 5 (.int .i64 c.l0) rfl
  have yf1 := b_v HF 6 (.int .i64 c.l1) rfl
  have yf2 := b_v HF 7 (.int .i64 c.l2) rfl
  have y40 := b_v H4 0 (.int .i64 0) rfl
  have f40 := b_z H4 0
  have y41 := b_v H4 1 (.int .i64 0) rfl
  have f41 := b_z H4 1
  have y42 := b_v H4 2 (.int .i64 0) rfl
  have f42 := b_z H4 2
  go_wp2_with fail
  obtain ⟨q, qb⟩ := three_set rfl H4.out g4 HB.out (.int .i64 c.l0) (.int .i64 c.l1) (.int .i64 c.l2)
  exact bodyPost_ret (results_cell_row rfl _ _ b4 26 _ (0, 0) _ rfl q Tryz.underlying26 rfl (by kernel_rfl)) rfl ⟨rfl, qb⟩
 | false =>
  go_enter Tryz.func69, Tryz.ntmps69
  go_upto_region 1 with fail
  replace HF := am (blk_alloc HF.out (.cells #[(), (), ()] 26))
  have x4' := blk_new w (.cells #[(), (), ()] 26)
  have HB := am (below_alloc (Below.refl w.heap.size w) (.cells #[(), (), ()] 26))
  generalize w.alloc (.cells #[(), (), ()] 26) = w1 at x4' HB HF ⊢
  obtain ⟨b4, h4⟩ := e_x (w.heap.size)
  have g4 : w.heap.size ≤ b4 := by omega
  rw [← h4] at x4' ⊢
  have H4 := am x4'
  clear x4' h4
  have yf0 := b_v HF 2 (.int .i64 c.q0) rfl
  have yf1 := b_v HF 3 (.int .i64 c.q1) rfl
  have yf2 := b_v HF 4 (.int .i64 c.q2) rfl
  have y40 := b_v H4 0 (.int .i64 0) rfl
  have f40 := b_z H4 0
  have y41 := b_v H4 1 (.int .i64 0) rfl
  have f41 := b_z H4 1
  have y42 := b_v H4 2 (.int .i64 0) rfl
  have f42 := b_z H4 2
  go_wp2_with fail
  obtain ⟨q, qb⟩ := three_set rfl H4.out g4 HB.out (.int .i64 c.q0) (.int .i64 c.q1) (.int .i64 c.q2)
  exact bodyPost_ret (results_cell_row rfl _ _ b4 26 _ (0, 0) _ rfl q Tryz.underlying26 rfl (by kernel_rfl)) rfl ⟨rfl, qb⟩
set_option maxRecDepth 100000 in
set_option maxHeartbeats 4000000 in
theorem nine_set {w0 w : World} {b : Nat} (hX : w.heap[b]? = some (.cells #[(), (), (), (), (), (), (), (), ()] 50 (0, 0))) (g : w0.heap.size ≤ b) (hB : Below w0.heap.size w0 w) (x0 x1 x2 x3 x4 x5 x6 x7 x8 : Value) :
  (((((((((w.setCell ⟨b, 0, none⟩ x0).setCell ⟨b, 1, none⟩ x1).setCell ⟨b, 2, none⟩ x2).setCell ⟨b, 3, none⟩ x3).setCell ⟨b, 4, none⟩ x4).setCell ⟨b, 5, none⟩ x5).setCell ⟨b, 6, none⟩ x6).setCell ⟨b, 7, none⟩ x7).setCell ⟨b, 8, none⟩ x8).heap[b]? = some (.cells #[x0, x1, x2, x3, x4, x5, x6, x7, x8] 50 (0, 0)) ∧ Below w0.heap.size w0 (((((((((w.setCell ⟨b, 0, none⟩ x0).setCell ⟨b, 1, none⟩ x1).setCell ⟨b, 2, none⟩ x2).setCell ⟨b, 3, none⟩ x3).setCell ⟨b, 4, none⟩ x4).setCell ⟨b, 5, none⟩ x5).setCell ⟨b, 6, none⟩ x6).setCell ⟨b, 7, none⟩ x7).setCell ⟨b, 8, none⟩ x8) := by
 have h1 : (w.setCell ⟨b, 0, none⟩ x0).heap[b]? = some (.cells #[x0, (), (), (), (), (), (), (), ()] 50 (0, 0)) := blk_set hX 0 x0
 have h2 : ((w.setCell ⟨b, 0, none⟩ x0).setCell ⟨b, 1, none⟩ x1).heap[b]? = some (.cells #[x0, x1, (), (), (), (), (), (), ()] 50 (0, 0)) := blk_set h1 1 x1
 have h3 : (((w.setCell ⟨b, 0, none⟩ x0).setCell ⟨b, 1, none⟩ x1).setCell ⟨b, 2, none⟩ x2).heap[b]? = some (.cells #[x0, x1, x2, (), (), (), (), (), ()] 50 (0, 0)) := blk_set h2 2 x2
 have h4 : ((((w.setCell ⟨b, 0, none⟩ x0).setCell ⟨b, 1, none⟩ x1).setCell ⟨b, 2, none⟩ x2).setCell ⟨b, 3, none⟩ x3).heap[b]? = some (.cells #[x0, x1, x2, x3, (), (), (), (), ()] 50 (0, 0)) := blk_set h3 3 x3
 have h5 : (((((w.setCell ⟨b, 0, none⟩ x0).setCell ⟨b, 1, none⟩ x1).setCell ⟨b, 2, none⟩ x2).setCell ⟨b, 3, none⟩ x3).setCell ⟨b, 4, none⟩ x4).heap[b]? = some (.cells #[x0, x1, x2, x3, x4, (), (), (), ()] 50 (0, 0)) := blk_set h4 4 x4
 have h6 : ((((((w.setCell ⟨b, 0, none⟩ x0).setCell ⟨b, 1, none⟩ x1).setCell ⟨b, 2, none⟩ x2).setCell ⟨b, 3, none⟩ x3).setCell ⟨b, 4, none⟩ x4).setCell ⟨b, 5, none⟩ x5).heap[b]? = some (.cells #[x0, x1, x2, x3, x4, x5, (), (), ()] 50 (0, 0)) := blk_set h5 5 x5
 have h7 : (((((((w.setCell ⟨b, 0, none⟩ x0).setCell ⟨b, 1, none⟩ x1).setCell ⟨b, 2, none⟩ x2).setCell ⟨b, 3, none⟩ x3).setCell ⟨b, 4, none⟩ x4).setCell ⟨b, 5, none⟩ x5).setCell ⟨b, 6, none⟩ x6).heap[b]? = some (.cells #[x0, x1, x2, x3, x4, x5, x6, (), ()] 50 (0, 0)) := blk_set h6 6 x6
 have h8 : ((((((((w.setCell ⟨b, 0, none⟩ x0).setCell ⟨b, 1, none⟩ x1).setCell ⟨b, 2, none⟩ x2).setCell ⟨b, 3, none⟩ x3).setCell ⟨b, 4, none⟩ x4).setCell ⟨b, 5, none⟩ x5).setCell ⟨b, 6, none⟩ x6).setCell ⟨b, 7, none⟩ x7).heap[b]? = some (.cells #[x0, x1, x2, x3, x4, x5, x6, x7, ()] 50 (0, 0)) := blk_set h7 7 x7
 have h9 : (((((((((w.setCell ⟨b, 0, none⟩ x0).setCell ⟨b, 1, none⟩ x1).setCell ⟨b, 2, none⟩ x2).setCell ⟨b, 3, none⟩ x3).setCell ⟨b, 4, none⟩ x4).setCell ⟨b, 5, none⟩ x5).setCell ⟨b, 6, none⟩ x6).setCell ⟨b, 7, none⟩ x7).setCell ⟨b, 8, none⟩ x8).heap[b]? = some (.cells #[x0, x1, x2, x3, x4, x5, x6, x7, x8] 50 (0, 0)) := blk_set h8 8 x8
 exact ⟨h9, (Below.setCell (Below.setCell (Below.setCell (Below.setCell (Below.setCell (Below.setCell (Below.setCell (Below.setCell (Below.setCell hB (p := ⟨b, 0, none⟩) g x0) (p := ⟨b, 1, none⟩) g x1) (p := ⟨b, 2, none⟩) g x2) (p := ⟨b, 3, none⟩) g x3) (p := ⟨b, 4, none⟩) g x4) (p := ⟨b, 5, none⟩) g x5) (p := ⟨b, 6, none⟩) g x6) (p := ⟨b, 7, none⟩) g x7) (p := ⟨b, 8, none⟩) g x8)⟩
set_option maxRecDepth 100000 in
theorem build50 (r0 r1 r2 q0 q1 q2 q3 q4 q5 : Int) (w : World) : (Instr.build 50 #[(0, .agg #[r0, r1, r2]), (1, .agg #[q0, q1, q2, q3, q4, q5])]).run Tryz.prog w = .ok (.agg #[r0, r1, r2, q0, q1, q2, q3, q4, q5]) w := by
 kernel_rfl
set_option maxRecDepth 100000 in
set_option maxHeartbeats 4000000 in
theorem store9 {op : Oper} {a : Act} {w : World} (x y : Operand) (ho : op.op = .store 50 x y) (b : Nat) (x0 x1 x2 x3 x4 x5 x6 x7 x8 : Int) (hx : a.eval x = .pointer (some ⟨b, 0, none⟩)) (hy : a.eval y = .agg #[x0, x1, x2, x3, x4, x5, x6, x7, x8]) (hX : w.heap[b]? = some (.cells #[(), (), (), (), (), (), (), (), ()] 50 (0, 0))) :
  (execOp a.eval op).run Tryz.prog w = .ok .skip (((((((((w.setCell ⟨b, 0, none⟩ (.int .i64 x0)).setCell ⟨b, 1, none⟩ (.int .i64 x1)).setCell ⟨b, 2, none⟩ (.int .i64 x2)).setCell ⟨b, 3, none⟩ (.int .i64 x3)).setCell ⟨b, 4, none⟩ (.int .i64 x4)).setCell ⟨b, 5, none⟩ (.int .i64 x5)).setCell ⟨b, 6, none⟩ (.int .i64 x6)).setCell ⟨b, 7, none⟩ (.int .i64 x7)).setCell ⟨b, 8, none⟩ (.int .i64 x8)) := by
 have ht : w.there b 0 (#[x0, x1, x2, x3, x4, x5, x6, x7, x8] : Array Value).size := fun j hj => ⟨by rw [blk_cell hX (0 + j)]; simp at hj ⊢; omega, bfz hX _⟩
 have h := run_storeVar_mid (P := Tryz.prog) w b 0 50 (#[x0, x1, x2, x3, x4, x5, x6, x7, x8] : Array Value) ht (by kernel_rfl) (by simp [Value.oneCell'])
 unfold execOp
 simp only [ho, hx, hy, Instr.storeAt, Instr.sureAddr, Sem.run_bind, Sem.run_pure, Result.andThen_ok, h]
 rfl
theorem yield50 {op : Oper} {a : Act} (x y : Operand) (ho : op.op = .build 50 #[(0, x), (1, y)]) (r0 r1 r2 q0 q1 q2 q3 q4 q5 : Int) (hx : a.eval x = .agg #[r0, r1, r2]) (hy : a.eval y = .agg #[q0, q1, q2, q3, q4, q5]) (w : World) :
  (execOp a.eval op).run Tryz.prog w = .ok (.value (.agg #[r0, r1, r2, q0, q1, q2, q3, q4, q5])) w := by
 have hb := build50 r0 r1 r2 q0 q1 q2 q3 q4 q5 w
 unfold execOp
 simp only [ho, List.map_toArray, List.map_cons, List.map_nil, hx, hy, Sem.run_bind, Sem.run_pure, hb, Result.andThen_ok]
def gsV (s : Gs) : Value := .agg #[s.x0, s.x1, s.x2, s.p0, s.p1, s.p2, s.p3, s.p4, s.p5]
set_option maxRecDepth 100000 in
set_option maxHeartbeats 4000000 in
theorem kept_ex (c : Cf) (x0 x1 x2 p0 p1 p2 p3 p4 p5 : Int) : ∃ r : Gs, ∀ (w : World) (bg f gr : Nat) (s : Gs) (v : Value) (mode since : Int), G w → w.heap[bg]? = some (.cells (chanV s c f gr v mode since) 56 (0, 0)) →
  Calls Tryz.prog 70 #[.pointer (some ⟨bg, 0, none⟩), vec x0 x1 x2, sym p0 p1 p2 p3 p4 p5] w fun e w' => e = .returned (gsV r) ∧ Below w.heap.size w w' := by
 obtain ⟨q0, q1, q2, q3, q4, q5, e, ht⟩ := tame_tells p0 p1 p2 p3 p4 p5 c.f0 c.f1 c.f2 c.c0 c.c1 c.c2
 obtain ⟨r0, r1, r2, hk⟩ := kept1_tells x0 x1 x2 c.b0 c.b1 c.b2
 have HT := am ht
 have HK := am hk
 clear ht hk
 unfold sym vec at *
 refine ⟨⟨r0, r1, r2, q0, q1, q2, q3, q4, q5⟩, fun w bg f gr s v mode since hG hg => ?_⟩
 have Hg := am hg
 clear hg
 unfold gsV
 have HG := am hG
 clear hG
 go_enter Tryz.func70, Tryz.ntmps70
 go_upto_region 1 with fail
 obtain ⟨x4', x5', x6', hB⟩ := blocks3 w #[x0, x1, x2] #[p0, p1, p2, p3, p4, p5] #[(), (), (), (), (), (), (), (), ()] 26 46 50
 generalize ((w.alloc (.cells #[x0, x1, x2] 26)).alloc (.cells #[p0, p1, p2, p3, p4, p5] 46)).alloc (.cells #[(), (), (), (), (), (), (), (), ()] 50) = w1 at x4' x5' x6' hB ⊢
 obtain ⟨b4, h4⟩ := e_x (w.heap.size)
 obtain ⟨b5, h5⟩ := e_x (w.heap.size + 1)
 obtain ⟨b6, h6⟩ := e_x (w.heap.size + 1 + 1)
 have g4 : w.heap.size ≤ b4 := by omega
 have g5 : w.heap.size ≤ b5 := by omega
 have g6 : w.heap.size ≤ b6 := by omega
 have n4_5 : b4 ≠ b5 := by omega
 have n4_6 : b4 ≠ b6 := by omega
 have n5_4 : b5 ≠ b4 := by omega
 have n5_6 : b5 ≠ b6 := by omega
 have n6_4 : b6 ≠ b4 := by omega
 have n6_5 : b6 ≠ b5 := by omega
 rw [← h6, ← h5, ← h4]
 rw [← h6] at x6'
 rw [← h5] at x5'
 rw [← h4] at x4'
 have H4 := am x4'
 have H5 := am x5'
 have H6 := am x6'
 have HB := am hB
 clear x4' x5' x6' hB h4 h5 h6
 replace Hg := am (blk_below Hg.out HB.out)
 have ng_6 := blk_ne Hg.out H6.out (by decide)
 apply cut1_ (fun b7 W => w.heap.size ≤ b7 ∧ Aside0 (W.heap[b4]? = some (.cells #[x0, x1, x2] 26 (0, 0))) ∧ Aside0 (W.heap[b6]? = some (.cells #[(), (), (), (), (), (), (), (), ()] 50 (0, 0))) ∧ Aside0 (W.heap[bg]? = some (.cells (chanV s c f gr v mode since) 56 (0, 0))) ∧ Aside0 (W.heap[b7]? = some (.cells #[q0, q1, q2, q3, q4, q5] 46 (0, 0))) ∧ Aside0 (Below w.heap.size w W))
 ·
  intro join
  refine s_t 18 (fun w' => w'.heap[b5]? = some (.cells #[p0, p1, p2, p3, p4, p5] 46 (0, 0)) ∧ w'.heap[bg]? = some (.cells (chanV s c f gr v mode since) 56 (0, 0))) ⟨H5.out, Hg.out⟩ (fun hHeld => ?_)
  replace H4 := b_d H4
  replace H5 := b_d H5
  replace H6 := b_d H6
  replace Hg := b_d Hg
  replace HB := am (below_drew HB.out)
  generalize w1.drew = v1 at H4 H5 H6 Hg HB hHeld ⊢
  refine t_a 0 10 18 1 hHeld ?_ (hv := by rintro w' ⟨s0, s1⟩; have x0 := bcv s0 0 (.int .i64 p0) rfl; have x1 := bcv s0 1 (.int .i64 p1) rfl; have x2 := bcv s0 2 (.int .i64 p2) rfl; have x3 := bcv s0 3 (.int .i64 p3) rfl; have x4 := bcv s0 4 (.int .i64 p4) rfl; have x5 := bcv s0 5 (.int .i64 p5) rfl; go_simp; with_reducible rfl)
  refine p_u 1 11 18 3 ?_
  refine p_u 2 12 18 7 ?_
  refine p_u 3 13 18 15 ?_
  refine p_u 4 14 18 31 ?_
  refine t_a 5 15 18 63 hHeld ?_ (hv := by rintro w' ⟨s0, s1⟩; have x0 := bcv s1 20 (.int .i64 c.f0) rfl; have x1 := bcv s1 21 (.int .i64 c.f1) rfl; have x2 := bcv s1 22 (.int .i64 c.f2) rfl; go_simp; with_reducible rfl)
  refine p_u 6 16 18 127 ?_
  refine p_u 7 17 18 255 ?_
  refine p_u 8 18 18 511 ?_
  refine p_u 9 19 18 1023 ?_
  refine t_a 10 20 18 2047 hHeld ?_ (hv := by rintro w' ⟨s0, s1⟩; have x0 := bcv s1 23 (.int .i64 c.c0) rfl; have x1 := bcv s1 24 (.int .i64 c.c1) rfl; have x2 := bcv s1 25 (.int .i64 c.c2) rfl; go_simp; with_reducible rfl)
  refine two_ (i := 11) (j := 15) (Ni := (some 21)) (Nj := (some 7)) (flg 18 4095) (flg 18 34815) rfl rfl rfl rfl (by kernel_rfl) (by decide) (by decide) (fun K hK => ?_) (fun K hK => ?_)
  ·
   skip
   refine g_s Tryz.func101 #[.agg #[p0, p1, p2, p3, p4, p5], .agg #[c.f0, c.f1, c.f2], .agg #[c.c0, c.c1, c.c2]] ?_
   refine (HT.out v1 (HG.out.below HB.out)).mono ?_
   rintro e v2 ⟨rfl, hb⟩
   replace H4 := b_b H4 hb
   replace H5 := b_b H5 hb
   replace H6 := b_b H6 hb
   replace Hg := b_b Hg hb
   replace HB := b_s HB hb
   clear hb hHeld
   refine ⟨_, rfl, ?_⟩
   refine hK.out _ _ ⟨H5.out, Hg.out⟩ (fun hHeld => ?_)
   clear hK K
   refine n_o 21 ?_
   refine p_u 12 9 18 8191 ?_
   refine p_u 13 22 18 16383 ?_
   refine p_u 14 23 18 32767 ?_
   refine o_n 15 7 18 65535 fun K hK => ?_
   refine event_step (v := .pointer (some ⟨v2.heap.size, 0, none⟩)) (w1 := v2.alloc (.cells #[(), (), (), (), (), ()] 46)) (by rfl) (by first | (go_simp; done) | (go_simp; rfl)) ?_
   have n4_7 : b4 ≠ v2.heap.size := Nat.ne_of_lt (blk_lt H4.out)
   have n5_7 : b5 ≠ v2.heap.size := Nat.ne_of_lt (blk_lt H5.out)
   have n6_7 : b6 ≠ v2.heap.size := Nat.ne_of_lt (blk_lt H6.out)
   have ng_7 : bg ≠ v2.heap.size := Nat.ne_of_lt (blk_lt Hg.out)
   replace H4 := am (blk_alloc H4.out (.cells #[(), (), (), (), (), ()] 46))
   replace H5 := am (blk_alloc H5.out (.cells #[(), (), (), (), (), ()] 46))
   replace H6 := am (blk_alloc H6.out (.cells #[(), (), (), (), (), ()] 46))
   replace Hg := am (blk_alloc Hg.out (.cells #[(), (), (), (), (), ()] 46))
   have H7 := am (blk_new v2 (.cells #[(), (), (), (), (), ()] 46))
   have g7 : w.heap.size ≤ v2.heap.size := HB.out.size
   replace HB := am (below_alloc HB.out (.cells #[(), (), (), (), (), ()] 46))
   generalize v2.alloc (.cells #[(), (), (), (), (), ()] 46) = v3 at H4 H5 H6 Hg H7 HB ⊢
   generalize v2.heap.size = b7 at H7 g7 n4_7 n5_7 n6_7 ng_7 ⊢
   clear hHeld
   refine hK.out _ _ ⟨H5.out, Hg.out⟩ (fun hHeld => ?_)
   clear hK K
   refine n_o 7 ?_
   have y70 := b_v H7 0 (.int .i64 0) rfl
   have f70 := b_z H7 0
   have y71 := b_v H7 1 (.int .i64 0) rfl
   have f71 := b_z H7 1
   have y72 := b_v H7 2 (.int .i64 0) rfl
   have f72 := b_z H7 2
   have y73 := b_v H7 3 (.int .i64 0) rfl
   have f73 := b_z H7 3
   have y74 := b_v H7 4 (.int .i64 0) rfl
   have f74 := b_z H7 4
   have y75 := b_v H7 5 (.int .i64 0) rfl
   have f75 := b_z H7 5
   refine o_0 16 18 131071 fun K hK => ?_
   refine s_k ((((((v3.setCell ⟨b7, 0, none⟩ (.int .i64 q0)).setCell ⟨b7, 1, none⟩ (.int .i64 q1)).setCell ⟨b7, 2, none⟩ (.int .i64 q2)).setCell ⟨b7, 3, none⟩ (.int .i64 q3)).setCell ⟨b7, 4, none⟩ (.int .i64 q4)).setCell ⟨b7, 5, none⟩ (.int .i64 q5)) ?_
   obtain ⟨q, qb⟩ := six_set rfl H7.out g7 HB.out (.int .i64 q0) (.int .i64 q1) (.int .i64 q2) (.int .i64 q3) (.int .i64 q4) (.int .i64 q5)
   have qo0 := (blk_far (blk_far (blk_far (blk_far (blk_far (blk_far H4.out (p := ⟨b7, 0, none⟩) n4_7 (.int .i64 q0)) (p := ⟨b7, 1, none⟩) n4_7 (.int .i64 q1)) (p := ⟨b7, 2, none⟩) n4_7 (.int .i64 q2)) (p := ⟨b7, 3, none⟩) n4_7 (.int .i64 q3)) (p := ⟨b7, 4, none⟩) n4_7 (.int .i64 q4)) (p := ⟨b7, 5, none⟩) n4_7 (.int .i64 q5))
   have qo1 := (blk_far (blk_far (blk_far (blk_far (blk_far (blk_far H5.out (p := ⟨b7, 0, none⟩) n5_7 (.int .i64 q0)) (p := ⟨b7, 1, none⟩) n5_7 (.int .i64 q1)) (p := ⟨b7, 2, none⟩) n5_7 (.int .i64 q2)) (p := ⟨b7, 3, none⟩) n5_7 (.int .i64 q3)) (p := ⟨b7, 4, none⟩) n5_7 (.int .i64 q4)) (p := ⟨b7, 5, none⟩) n5_7 (.int .i64 q5))
   have qo2 := (blk_far (blk_far (blk_far (blk_far (blk_far (blk_far H6.out (p := ⟨b7, 0, none⟩) n6_7 (.int .i64 q0)) (p := ⟨b7, 1, none⟩) n6_7 (.int .i64 q1)) (p := ⟨b7, 2, none⟩) n6_7 (.int .i64 q2)) (p := ⟨b7, 3, none⟩) n6_7 (.int .i64 q3)) (p := ⟨b7, 4, none⟩) n6_7 (.int .i64 q4)) (p := ⟨b7, 5, none⟩) n6_7 (.int .i64 q5))
   have qo3 := (blk_far (blk_far (blk_far (blk_far (blk_far (blk_far Hg.out (p := ⟨b7, 0, none⟩) ng_7 (.int .i64 q0)) (p := ⟨b7, 1, none⟩) ng_7 (.int .i64 q1)) (p := ⟨b7, 2, none⟩) ng_7 (.int .i64 q2)) (p := ⟨b7, 3, none⟩) ng_7 (.int .i64 q3)) (p := ⟨b7, 4, none⟩) ng_7 (.int .i64 q4)) (p := ⟨b7, 5, none⟩) ng_7 (.int .i64 q5))
   clear hHeld y70 f70 y71 f71 y72 f72 y73 f73 y74 f74 y75 f75 H7 HB H4 H5 H6 Hg
   generalize (((((v3.setCell ⟨b7, 0, none⟩ (.int .i64 q0)).setCell ⟨b7, 1, none⟩ (.int .i64 q1)).setCell ⟨b7, 2, none⟩ (.int .i64 q2)).setCell ⟨b7, 3, none⟩ (.int .i64 q3)).setCell ⟨b7, 4, none⟩ (.int .i64 q4)).setCell ⟨b7, 5, none⟩ (.int .i64 q5) = v4 at q qb qo0 qo1 qo2 qo3 ⊢
   have H7 := am q
   have HB := am qb
   have H4 := am qo0
   have H5 := am qo1
   have H6 := am qo2
   have Hg := am qo3
   clear q qb qo0 qo1 qo2 qo3
   refine hK.out _ _ ⟨H5.out, Hg.out⟩ (fun hHeld => ?_)
   clear hK K
   refine p_u 17 8 18 262143 ?_
   refine d_n ?_
   have g7w : w.heap.size ≤ b7 := g7
   exact join b7 v4 ⟨g7w, H4, H6, Hg, H7, HB⟩
  skip
  refine event_step (v := .pointer (some ⟨v1.heap.size, 0, none⟩)) (w1 := v1.alloc (.cells #[(), (), (), (), (), ()] 46)) (by rfl) (by first | (go_simp; done) | (go_simp; rfl)) ?_
  have n4_7 : b4 ≠ v1.heap.size := Nat.ne_of_lt (blk_lt H4.out)
  have n5_7 : b5 ≠ v1.heap.size := Nat.ne_of_lt (blk_lt H5.out)
  have n6_7 : b6 ≠ v1.heap.size := Nat.ne_of_lt (blk_lt H6.out)
  have ng_7 : bg ≠ v1.heap.size := Nat.ne_of_lt (blk_lt Hg.out)
  replace H4 := am (blk_alloc H4.out (.cells #[(), (), (), (), (), ()] 46))
  replace H5 := am (blk_alloc H5.out (.cells #[(), (), (), (), (), ()] 46))
  replace H6 := am (blk_alloc H6.out (.cells #[(), (), (), (), (), ()] 46))
  replace Hg := am (blk_alloc Hg.out (.cells #[(), (), (), (), (), ()] 46))
  have H7 := am (blk_new v1 (.cells #[(), (), (), (), (), ()] 46))
  have g7 : w.heap.size ≤ v1.heap.size := HB.out.size
  replace HB := am (below_alloc HB.out (.cells #[(), (), (), (), (), ()] 46))
  generalize v1.alloc (.cells #[(), (), (), (), (), ()] 46) = v2 at H4 H5 H6 Hg H7 HB ⊢
  generalize v1.heap.size = b7 at H7 g7 n4_7 n5_7 n6_7 ng_7 ⊢
  clear hHeld
  refine hK.out _ _ ⟨H5.out, Hg.out⟩ (fun hHeld => ?_)
  clear hK K
  refine n_o 7 ?_
  refine o_n 11 21 18 36863 fun K hK => ?_
  refine g_s Tryz.func101 #[.agg #[p0, p1, p2, p3, p4, p5], .agg #[c.f0, c.f1, c.f2], .agg #[c.c0, c.c1, c.c2]] ?_
  refine (HT.out v2 (HG.out.below HB.out)).mono ?_
  rintro e v3 ⟨rfl, hb⟩
  replace H4 := b_b H4 hb
  replace H5 := b_b H5 hb
  replace H6 := b_b H6 hb
  replace Hg := b_b Hg hb
  replace H7 := b_b H7 hb
  replace HB := b_s HB hb
  clear hb hHeld
  refine ⟨_, rfl, ?_⟩
  refine hK.out _ _ ⟨H5.out, Hg.out⟩ (fun hHeld => ?_)
  clear hK K
  refine n_o 21 ?_
  refine p_u 12 9 18 40959 ?_
  refine p_u 13 22 18 49151 ?_
  refine p_u 14 23 18 65535 ?_
  have y70 := b_v H7 0 (.int .i64 0) rfl
  have f70 := b_z H7 0
  have y71 := b_v H7 1 (.int .i64 0) rfl
  have f71 := b_z H7 1
  have y72 := b_v H7 2 (.int .i64 0) rfl
  have f72 := b_z H7 2
  have y73 := b_v H7 3 (.int .i64 0) rfl
  have f73 := b_z H7 3
  have y74 := b_v H7 4 (.int .i64 0) rfl
  have f74 := b_z H7 4
  have y75 := b_v H7 5 (.int .i64 0) rfl
  have f75 := b_z H7 5
  refine o_0 16 18 131071 fun K hK => ?_
  refine s_k ((((((v3.setCell ⟨b7, 0, none⟩ (.int .i64 q0)).setCell ⟨b7, 1, none⟩ (.int .i64 q1)).setCell ⟨b7, 2, none⟩ (.int .i64 q2)).setCell ⟨b7, 3, none⟩ (.int .i64 q3)).setCell ⟨b7, 4, none⟩ (.int .i64 q4)).setCell ⟨b7, 5, none⟩ (.int .i64 q5)) ?_
  obtain ⟨q, qb⟩ := six_set rfl H7.out g7 HB.out (.int .i64 q0) (.int .i64 q1) (.int .i64 q2) (.int .i64 q3) (.int .i64 q4) (.int .i64 q5)
  have qo0 := (blk_far (blk_far (blk_far (blk_far (blk_far (blk_far H4.out (p := ⟨b7, 0, none⟩) n4_7 (.int .i64 q0)) (p := ⟨b7, 1, none⟩) n4_7 (.int .i64 q1)) (p := ⟨b7, 2, none⟩) n4_7 (.int .i64 q2)) (p := ⟨b7, 3, none⟩) n4_7 (.int .i64 q3)) (p := ⟨b7, 4, none⟩) n4_7 (.int .i64 q4)) (p := ⟨b7, 5, none⟩) n4_7 (.int .i64 q5))
  have qo1 := (blk_far (blk_far (blk_far (blk_far (blk_far (blk_far H5.out (p := ⟨b7, 0, none⟩) n5_7 (.int .i64 q0)) (p := ⟨b7, 1, none⟩) n5_7 (.int .i64 q1)) (p := ⟨b7, 2, none⟩) n5_7 (.int .i64 q2)) (p := ⟨b7, 3, none⟩) n5_7 (.int .i64 q3)) (p := ⟨b7, 4, none⟩) n5_7 (.int .i64 q4)) (p := ⟨b7, 5, none⟩) n5_7 (.int .i64 q5))
  have qo2 := (blk_far (blk_far (blk_far (blk_far (blk_far (blk_far H6.out (p := ⟨b7, 0, none⟩) n6_7 (.int .i64 q0)) (p := ⟨b7, 1, none⟩) n6_7 (.int .i64 q1)) (p := ⟨b7, 2, none⟩) n6_7 (.int .i64 q2)) (p := ⟨b7, 3, none⟩) n6_7 (.int .i64 q3)) (p := ⟨b7, 4, none⟩) n6_7 (.int .i64 q4)) (p := ⟨b7, 5, none⟩) n6_7 (.int .i64 q5))
  have qo3 := (blk_far (blk_far (blk_far (blk_far (blk_far (blk_far Hg.out (p := ⟨b7, 0, none⟩) ng_7 (.int .i64 q0)) (p := ⟨b7, 1, none⟩) ng_7 (.int .i64 q1)) (p := ⟨b7, 2, none⟩) ng_7 (.int .i64 q2)) (p := ⟨b7, 3, none⟩) ng_7 (.int .i64 q3)) (p := ⟨b7, 4, none⟩) ng_7 (.int .i64 q4)) (p := ⟨b7, 5, none⟩) ng_7 (.int .i64 q5))
  clear hHeld y70 f70 y71 f71 y72 f72 y73 f73 y74 f74 y75 f75 H7 HB H4 H5 H6 Hg
  generalize (((((v3.setCell ⟨b7, 0, none⟩ (.int .i64 q0)).setCell ⟨b7, 1, none⟩ (.int .i64 q1)).setCell ⟨b7, 2, none⟩ (.int .i64 q2)).setCell ⟨b7, 3, none⟩ (.int .i64 q3)).setCell ⟨b7, 4, none⟩ (.int .i64 q4)).setCell ⟨b7, 5, none⟩ (.int .i64 q5) = v4 at q qb qo0 qo1 qo2 qo3 ⊢
  have H7 := am q
  have HB := am qb
  have H4 := am qo0
  have H5 := am qo1
  have H6 := am qo2
  have Hg := am qo3
  clear q qb qo0 qo1 qo2 qo3
  refine hK.out _ _ ⟨H5.out, Hg.out⟩ (fun hHeld => ?_)
  clear hK K
  refine p_u 17 8 18 262143 ?_
  refine d_n ?_
  have g7w : w.heap.size ≤ b7 := g7
  exact join b7 v4 ⟨g7w, H4, H6, Hg, H7, HB⟩
 clear H4 H5 H6 Hg HB
 rintro b7 v4 ⟨g7, H4, H6, Hg, H7, HB⟩
 have n7_6 := blk_ne H7.out H6.out (by decide)
 have b50 := build50 r0 r1 r2 q0 q1 q2 q3 q4 q5
 as_aux_lemma =>
  go_upto_region 2 with fail
  refine s_t 10 (fun w' => w'.heap[b4]? = some (.cells #[x0, x1, x2] 26 (0, 0)) ∧ w'.heap[bg]? = some (.cells (chanV s c f gr v mode since) 56 (0, 0)) ∧ w'.heap[b7]? = some (.cells #[q0, q1, q2, q3, q4, q5] 46 (0, 0))) ⟨H4.out, Hg.out, H7.out⟩ (fun hHeld => ?_)
  replace H4 := b_d H4
  replace H6 := b_d H6
  replace Hg := b_d Hg
  replace H7 := b_d H7
  replace HB := am (below_drew HB.out)
  generalize v4.drew = u1 at H4 H6 Hg H7 HB hHeld ⊢
  refine t_a 0 24 10 1 hHeld ?_ (hv := by rintro w' ⟨s0, s1, s2⟩; have x0 := bcv s0 0 (.int .i64 x0) rfl; have x1 := bcv s0 1 (.int .i64 x1) rfl; have x2 := bcv s0 2 (.int .i64 x2) rfl; go_simp; with_reducible rfl)
  refine p_u 1 25 10 3 ?_
  refine p_u 2 26 10 7 ?_
  refine p_u 3 27 10 15 ?_
  refine p_u 4 28 10 31 ?_
  refine t_a 5 29 10 63 hHeld ?_ (hv := by rintro w' ⟨s0, s1, s2⟩; have x0 := bcv s1 26 (.int .i64 c.b0) rfl; have x1 := bcv s1 27 (.int .i64 c.b1) rfl; have x2 := bcv s1 28 (.int .i64 c.b2) rfl; go_simp; with_reducible rfl)
  refine t_a 7 31 10 191 hHeld ?_ (hv := by rintro w' ⟨s0, s1, s2⟩; have z0 := bcv s2 0 (.int .i64 q0) rfl; have z1 := bcv s2 1 (.int .i64 q1) rfl; have z2 := bcv s2 2 (.int .i64 q2) rfl; have z3 := bcv s2 3 (.int .i64 q3) rfl; have z4 := bcv s2 4 (.int .i64 q4) rfl; have z5 := bcv s2 5 (.int .i64 q5) rfl; go_simp; with_reducible rfl)
  refine o_n 6 30 10 255 fun K hK => ?_
  refine g_s Tryz.func102 #[.agg #[x0, x1, x2], .agg #[c.b0, c.b1, c.b2]] ?_
  refine (HK.out u1 (HG.out.below HB.out)).mono ?_
  rintro e u2 ⟨rfl, hb⟩
  replace H4 := b_b H4 hb
  replace H6 := b_b H6 hb
  replace Hg := b_b Hg hb
  replace H7 := b_b H7 hb
  replace HB := b_s HB hb
  clear hb hHeld
  refine ⟨_, rfl, ?_⟩
  refine hK.out _ _ ⟨H4.out, Hg.out, H7.out⟩ (fun hHeld => ?_)
  clear hK K
  refine n_o 30 ?_
  refine pure_ (i := 8) (N := (some 32)) (v := (.agg #[r0, r1, r2, q0, q1, q2, q3, q4, q5])) (a' := ?_) (flg 10 511) rfl rfl (by kernel_rfl) (fun _ _ _ h => h) (Or.inl ⟨by rfl, ?_⟩) ?_ ?_
  ·
   intro w'
   exact yield50 (.tmp 30) (.tmp 31) rfl r0 r1 r2 q0 q1 q2 q3 q4 q5 rfl rfl w'
  rotate_left
  ·
   simp only [pw]
   rfl
  refine o_0 9 10 1023 fun K hK => ?_
  refine skip_ (w1 := ((((((((u2.setCell ⟨b6, 0, none⟩ (.int .i64 r0)).setCell ⟨b6, 1, none⟩ (.int .i64 r1)).setCell ⟨b6, 2, none⟩ (.int .i64 r2)).setCell ⟨b6, 3, none⟩ (.int .i64 q0)).setCell ⟨b6, 4, none⟩ (.int .i64 q1)).setCell ⟨b6, 5, none⟩ (.int .i64 q2)).setCell ⟨b6, 6, none⟩ (.int .i64 q3)).setCell ⟨b6, 7, none⟩ (.int .i64 q4)).setCell ⟨b6, 8, none⟩ (.int .i64 q5)) (by rfl) rfl (store9 (.tmp 6) (.tmp 32) rfl b6 r0 r1 r2 q0 q1 q2 q3 q4 q5 rfl rfl H6.out) ?_
  obtain ⟨q, qb⟩ := nine_set H6.out g6 HB.out (.int .i64 r0) (.int .i64 r1) (.int .i64 r2) (.int .i64 q0) (.int .i64 q1) (.int .i64 q2) (.int .i64 q3) (.int .i64 q4) (.int .i64 q5)
  have qag := (blk_far (blk_far (blk_far (blk_far (blk_far (blk_far (blk_far (blk_far (blk_far Hg.out (p := ⟨b6, 0, none⟩) ng_6 (.int .i64 r0)) (p := ⟨b6, 1, none⟩) ng_6 (.int .i64 r1)) (p := ⟨b6, 2, none⟩) ng_6 (.int .i64 r2)) (p := ⟨b6, 3, none⟩) ng_6 (.int .i64 q0)) (p := ⟨b6, 4, none⟩) ng_6 (.int .i64 q1)) (p := ⟨b6, 5, none⟩) ng_6 (.int .i64 q2)) (p := ⟨b6, 6, none⟩) ng_6 (.int .i64 q3)) (p := ⟨b6, 7, none⟩) ng_6 (.int .i64 q4)) (p := ⟨b6, 8, none⟩) ng_6 (.int .i64 q5))
  have qa4 := (blk_far (blk_far (blk_far (blk_far (blk_far (blk_far (blk_far (blk_far (blk_far H4.out (p := ⟨b6, 0, none⟩) n4_6 (.int .i64 r0)) (p := ⟨b6, 1, none⟩) n4_6 (.int .i64 r1)) (p := ⟨b6, 2, none⟩) n4_6 (.int .i64 r2)) (p := ⟨b6, 3, none⟩) n4_6 (.int .i64 q0)) (p := ⟨b6, 4, none⟩) n4_6 (.int .i64 q1)) (p := ⟨b6, 5, none⟩) n4_6 (.int .i64 q2)) (p := ⟨b6, 6, none⟩) n4_6 (.int .i64 q3)) (p := ⟨b6, 7, none⟩) n4_6 (.int .i64 q4)) (p := ⟨b6, 8, none⟩) n4_6 (.int .i64 q5))
  have qa7 := (blk_far (blk_far (blk_far (blk_far (blk_far (blk_far (blk_far (blk_far (blk_far H7.out (p := ⟨b6, 0, none⟩) n7_6 (.int .i64 r0)) (p := ⟨b6, 1, none⟩) n7_6 (.int .i64 r1)) (p := ⟨b6, 2, none⟩) n7_6 (.int .i64 r2)) (p := ⟨b6, 3, none⟩) n7_6 (.int .i64 q0)) (p := ⟨b6, 4, none⟩) n7_6 (.int .i64 q1)) (p := ⟨b6, 5, none⟩) n7_6 (.int .i64 q2)) (p := ⟨b6, 6, none⟩) n7_6 (.int .i64 q3)) (p := ⟨b6, 7, none⟩) n7_6 (.int .i64 q4)) (p := ⟨b6, 8, none⟩) n7_6 (.int .i64 q5))
  clear hHeld H6 HB Hg H4 H7
  generalize ((((((((u2.setCell ⟨b6, 0, none⟩ (.int .i64 r0)).setCell ⟨b6, 1, none⟩ (.int .i64 r1)).setCell ⟨b6, 2, none⟩ (.int .i64 r2)).setCell ⟨b6, 3, none⟩ (.int .i64 q0)).setCell ⟨b6, 4, none⟩ (.int .i64 q1)).setCell ⟨b6, 5, none⟩ (.int .i64 q2)).setCell ⟨b6, 6, none⟩ (.int .i64 q3)).setCell ⟨b6, 7, none⟩ (.int .i64 q4)).setCell ⟨b6, 8, none⟩ (.int .i64 q5) = u3 at q qb qag qa4 qa7 ⊢
  have H6 := am q
  have HB := am qb
  have Hg := am qag
  have H4 := am qa4
  have H7 := am qa7
  clear q qb qag qa4 qa7
  refine hK.out _ _ ⟨H4.out, Hg.out, H7.out⟩ (fun hHeld => ?_)
  clear hK K
  refine d_n ?_
  go_wp2_with fail
  exact bodyPost_ret (results_cell_row rfl _ _ b6 50 _ (0, 0) _ rfl H6.out Tryz.underlying50 rfl (by kernel_rfl)) rfl ⟨rfl, HB.out⟩
end Go.Proofs.YtpdahkgandaabaaGreatDoor.Ch
