/- Whatever counts are made the ground, and looked at, what each call answers is the document's: the walk of the law GroundPlays of layer 18. -/
import Derived.Test.YtofmingbmcinhaaDoorRefLevel
import Derived.Test.YtofmingbmcinhaaDoorFixed
namespace Go.Proofs.YtofmingbmcinhaaDoor.Bg
open Go.RowKit Go.Proofs.YtofmingbmcinhaaDoorW.PrintWords Go.Proofs.YtofmingbmcinhaaDoorW.PrintLast Go.Proofs.YtofmingbmcinhaaDoorW.PrintMore Go.Proofs.YtofmingbmcinhaaDoor.PGroundPlays Go.Proofs.YtofmingbmcinhaaDoor.Gd
set_option linter.unusedVariables false
set_option linter.unusedSimpArgs false

theorem four_any {w0 W : World} {b t : Nat} {x0 x1 x2 x3 : Value} (h : W.heap[b]? = some (.cells #[x0, x1, x2, x3] t (0, 0))) (y0 y1 y2 y3 : Value) (hb : w0.heap.size ≤ b) (hB : Below w0.heap.size w0 W) :
    ((((W.setCell ⟨b, 0, none⟩ y0).setCell ⟨b, 1, none⟩ y1).setCell ⟨b, 2, none⟩ y2).setCell ⟨b, 3, none⟩ y3).heap[b]? = some (.cells #[y0, y1, y2, y3] t (0, 0)) ∧ Below w0.heap.size w0 ((((W.setCell ⟨b, 0, none⟩ y0).setCell ⟨b, 1, none⟩ y1).setCell ⟨b, 2, none⟩ y2).setCell ⟨b, 3, none⟩ y3) :=
  ⟨by simpa using blk_set (blk_set (blk_set (blk_set h 0 y0) 1 y1) 2 y2) 3 y3, (((hB.setCell (p := ⟨b, 0, none⟩) hb y0).setCell (p := ⟨b, 1, none⟩) hb y1).setCell (p := ⟨b, 2, none⟩) hb y2).setCell (p := ⟨b, 3, none⟩) hb y3⟩
theorem near_same (band X c : Int) (hb : 0 ≤ band) (h : X = 0 ∨ good X = true) : near band X (decide (X ≠ 0)) c = rnear band X c := by
  unfold near rnear
  cases hg : good c with
  | false => simp
  | true =>
    rw [good_iff] at hg
    by_cases h0 : X = 0
    · simp [h0]
    · have hX := (good_iff X).1 (h.resolve_left h0)
      have hw : wrap64 (X - c) = X - c := Bg.w64 (by omega) (by omega)
      rw [hw]
      by_cases hle : X ≤ c
      · simp [h0, hle]
        omega
      · simp [h0, hle]
theorem mx_pos (a : Int) : 0 ≤ mx a 0 := by unfold mx; split <;> omega
theorem refnew_f (a0 a1 a2 : Int) : aneroidref18_New.f a0 a1 a2 = some (mx a0 0, a1, a2, 0) := by
  unfold aneroidref18_New.f mx
  split <;> rfl
-- LEM
/-- The count that the document's Set leaves. -/
def newX (X c : Int) : Int := if good c then (if 0 < X then X else c) else X
def seE (X c : Int) : Int := if good c then (if 0 < X then 7 else 0) else 2
theorem newX_good (X c : Int) (h : X = 0 ∨ good X = true) : newX X c = 0 ∨ good (newX X c) = true := by
  unfold newX
  cases hg : good c with
  | false => exact h
  | true =>
    by_cases h0 : 0 < X
    · simp only [h0, if_true]
      exact h
    · simp only [h0, if_true, if_false]
      exact .inr hg
theorem ggood_f (c : Int) : aneroidref06_Good.f c = some (good c) := by
  unfold aneroidref06_Good.f good
  by_cases h1 : c > 90527
  · rw [if_pos h1, decide_eq_true (show 90528 ≤ c by omega), Bool.true_and]
    congr 1
    by_cases h2 : c ≤ 430515
    · rw [decide_eq_true h2, decide_eq_true (by omega)]
    · rw [decide_eq_false h2, decide_eq_false (by omega)]
  · rw [if_neg h1, decide_eq_false (show ¬ 90528 ≤ c by omega), Bool.false_and]
theorem refset_f (a b d X c : Int) : aneroidref18_Ground_Set.f a b d X c = some (a, b, d, newX X c, seE X c) := by
  unfold aneroidref18_Ground_Set.f newX seE
  rw [ggood_f, Option.bind_some]
  cases good c with
  | false => simp
  | true =>
    by_cases h : 0 < X
    · simp [h]
    · simp [h]
theorem set_is (w0 w : World) (g : Nat) (band noise rough X c : Int) (hX : X = 0 ∨ good X = true) (hI : IsS47 w0 w g band noise rough X (decide (X ≠ 0))) (hB : Below w0.heap.size w0 w) :
    Calls Tryd.prog 8 #[.pointer (some ⟨g, 0, none⟩), .int .i64 c] w fun e w' => e = .returned (.int .i64 (seE X c)) ∧
      IsS47 w0 w' g band noise rough (newX X c) (decide (newX X c ≠ 0)) ∧ Below w0.heap.size w0 w' ∧ KeepBut w w' g none := by
  refine (set_any w0 w g band noise rough X (decide (X ≠ 0)) c hI hB).mono ?_
  rintro e w1 ⟨rfl, hI1, hB1, hk⟩
  have e1 : (if good c = true then (if decide (X ≠ 0) = true then (7 : Int) else 0) else 2) = seE X c := by
    unfold seE
    cases good c with
    | false => rfl
    | true =>
      by_cases h : 0 < X
      · simp [h, show ¬ X = 0 by omega]
      · rcases hX with h0 | h0
        · simp [h, h0]
        · have := (good_iff X).1 h0
          omega
  have e2 : (if (good c && !decide (X ≠ 0)) = true then c else X) = newX X c := by
    unfold newX
    cases good c with
    | false => rfl
    | true =>
      by_cases h : 0 < X
      · simp [h, show ¬ X = 0 by omega]
      · rcases hX with h0 | h0
        · simp [h0]
        · have := (good_iff X).1 h0
          omega
  have e3 : (decide (X ≠ 0) || good c) = decide (newX X c ≠ 0) := by
    unfold newX
    cases hg : good c with
    | false => simp
    | true =>
      have := (good_iff c).1 hg
      by_cases h : 0 < X
      · simp [h, show ¬ X = 0 by omega]
      · simp [h, show ¬ c = 0 by omega]
  rw [e1]
  rw [e2, e3] at hI1
  exact ⟨rfl, hI1, hB1, hk⟩
theorem pos_ne {X : Int} (h : X = 0 ∨ good X = true) : decide (0 < X) = decide (X ≠ 0) := by
  rcases h with h | h
  · simp [h]
  · have := (good_iff X).1 h
    simp [show 0 < X by omega, show ¬ X = 0 by omega]
theorem levels (a n r X c : Int) (ha : 0 ≤ a) (hX : X = 0 ∨ good X = true) : ∃ z ns nr e, Aside0 (levelR a n r X (decide (X ≠ 0)) c = .tuple #[.int .i64 z, .int .i64 ns, .bool nr, .int .i64 e]) ∧
    Aside0 (rlevel a n r X c = .agg #[.int .i64 z, .int .i64 ns, .bool nr, .int .i64 e]) ∧ Aside0 (near a X (decide (X ≠ 0)) c = nr) ∧ Aside0 (aneroidref18_Ground_Near.f a n r X c = some nr) := by
  refine ⟨_, _, _, _, ⟨rfl⟩, ⟨?_⟩, ⟨rfl⟩, ⟨?_⟩⟩
  · rw [near_same a X c ha hX]
    rfl
  · rw [near_same a X c ha hX]
    exact rnear_f a n r X c
theorem level_is (w0 w : World) (g : Nat) (band noise rough count : Int) (known : Bool) (c : Int) (V : Value) (hI : IsS47 w0 w g band noise rough count known) (hT : Tab w) (hV : levelR band noise rough count known c = V) :
    Calls Tryd.prog 10 #[.pointer (some ⟨g, 0, none⟩), .int .i64 c] w fun e w' => e = .returned V ∧ Below w.heap.size w w' := by
  rw [← hV]
  exact level_any w0 w g band noise rough count known c hI hT
theorem rlevel_is (w : World) (band noise rough count c : Int) (V : Value) (hV : rlevel band noise rough count c = V) :
    Calls Tryd.prog 11 #[.agg #[.int .i64 band, .int .i64 noise, .int .i64 rough, .int .i64 count], .int .i64 c] w fun e w' => e = .returned V ∧ Below w.heap.size w w' := by
  rw [← hV]
  exact rlevel_any w band noise rough count c
theorem near_is (w0 w : World) (g : Nat) (band noise rough count : Int) (known : Bool) (c : Int) (b : Bool) (hI : IsS47 w0 w g band noise rough count known) (h : near band count known c = b) :
    Calls Tryd.prog 13 #[.pointer (some ⟨g, 0, none⟩), .int .i64 c] w fun e w' => e = .returned (.bool b) ∧ Below w.heap.size w w' := by
  rw [← h]
  exact near_any w0 w g band noise rough count known c hI
theorem meas_up {i n : Nat} (h : i < n) : n - (intOf (.int .i64 ((i + 1 : Nat) : Int))).toNat < n - (intOf (.int .i64 (i : Int))).toNat := by
  show n - ((i + 1 : Nat) : Int).toNat < n - (i : Int).toNat
  rw [Int.toNat_natCast, Int.toNat_natCast]
  omega
-- ENDLEM
set_option maxRecDepth 100000 in
set_option maxHeartbeats 4000000 in
theorem lawPlays_any (w : World) (p0 p1 p2 : Int) (A : Option Addr) (ca : Nat) (l : List Int) (hT : Tab w) (hr : Kd.C (Kd.int .i64) w A l.length l) :
    Calls Tryd.prog 3 #[.agg #[.int .i64 p0, .int .i64 p1, .int .i64 p2], .slice A l.length ca] w fun e w' => e = .returned (.bool true) ∧ Below w.heap.size w w' := by
  have HT := Aside0.mk hT
  have HR := Aside0.mk hr
  clear hT hr
  by_cases hl : 60 < l.length
  · have h1 : decide ((60 : Int) < (l.length : Int)) = true := decide_eq_true (by omega)
    go_enter Tryd.func3, Tryd.ntmps3
    go_wp2_with fail
    refine (fixed_any _).mono ?_
    rintro e w1 ⟨rfl, hb⟩
    go_wp2_with fail
    go_ret
    exact ⟨rfl, below_step (below_alloc (Below.refl _ _) _) hb⟩
  have h1 : decide ((60 : Int) < (l.length : Int)) = false := decide_eq_false (by omega)
  go_enter Tryd.func3, Tryd.ntmps3
  go_upto_region 3 with fail
  have HX2 := Aside0.mk (blk_new w (.cells #[.int .i64 p0, .int .i64 p1, .int .i64 p2] 22))
  have HB := Aside0.mk (below_alloc (Below.refl w.heap.size w) (.cells #[.int .i64 p0, .int .i64 p1, .int .i64 p2] 22))
  obtain ⟨b2, h2⟩ : ∃ b, b = w.heap.size := ⟨_, rfl⟩
  rw [← h2] at HX2 ⊢
  clear h2
  generalize w.alloc (.cells #[.int .i64 p0, .int .i64 p1, .int .i64 p2] 22) = W0 at HX2 HB ⊢
  go_cut [5, 6] from 23 to 36 (fun v5 v6 wx => ∃ g b : Nat, v5 = .pointer (some ⟨g, 0, none⟩) ∧ v6 = .pointer (some ⟨b, 0, none⟩) ∧ Aside0 (IsS47 w wx g (mx p0 0) p1 p2 0 false) ∧ Aside0 (wx.heap[b]? = some (.cells #[.int .i64 (mx p0 0), .int .i64 p1, .int .i64 p2, .int .i64 0] 28 (0, 0))) ∧ Aside0 (w.heap.size ≤ b) ∧ Aside0 (Below w.heap.size w wx))
  case first =>
-- REGION
    refine start_ (n := 17) (S := fun w' => w'.cell? ⟨b2, 0, none⟩ = some (.int .i64 p0) ∧ w'.cell? ⟨b2, 1, none⟩ = some (.int .i64 p1) ∧ w'.cell? ⟨b2, 2, none⟩ = some (.int .i64 p2)) (ds := []) #[false, false, false, false, false, false, false, false, false, false, false, false, false, false, false, false, false] (by kernel_rfl) rfl rfl ⟨(blk_cell HX2.out 0).trans rfl, (blk_cell HX2.out 1).trans rfl, (blk_cell HX2.out 2).trans rfl⟩ (fun hHeld => ?_)
    replace HX2 := Aside0.mk (blk_drew HX2.out)
    replace HB := Aside0.mk (below_drew HB.out)
    generalize W0.drew = Wd at HX2 HB hHeld ⊢
    refine pure_ (i := 0) (N := (some 23)) (v := ?_) (a' := ?_) #[true, false, false, false, false, false, false, false, false, false, false, false, false, false, false, false, false] rfl rfl (by kernel_rfl) (fun _ _ _ h => h) (Or.inl ⟨by rfl, ?_⟩) ?_ ?_
    rotate_left
    · intro w'
      go_simp
      with_reducible rfl
    rotate_left
    · simp only [Act.put, List.setIfInBounds_toArray, List.set_cons_zero, List.set_cons_succ, i64_w, i32_w]
      rfl
    refine take_ (i := 1) (N := (some 24)) (v := ?_) (a' := ?_) #[true, true, false, false, false, false, false, false, false, false, false, false, false, false, false, false, false] rfl rfl (by kernel_rfl) (fun _ _ _ h => h) (Or.inl ⟨by rfl, ?_⟩) hHeld ?_ ?_
    rotate_left
    · rintro w' ⟨s0, s1, s2⟩
      go_simp
      with_reducible rfl
    rotate_left
    · simp only [Act.put, List.setIfInBounds_toArray, List.set_cons_zero, List.set_cons_succ, i64_w, i32_w]
      rfl
    refine pure_ (i := 2) (N := (some 25)) (v := ?_) (a' := ?_) #[true, true, true, false, false, false, false, false, false, false, false, false, false, false, false, false, false] rfl rfl (by kernel_rfl) (fun _ _ _ h => h) (Or.inl ⟨by rfl, ?_⟩) ?_ ?_
    rotate_left
    · intro w'
      go_simp
      with_reducible rfl
    rotate_left
    · simp only [Act.put, List.setIfInBounds_toArray, List.set_cons_zero, List.set_cons_succ, i64_w, i32_w]
      rfl
    refine take_ (i := 3) (N := (some 26)) (v := ?_) (a' := ?_) #[true, true, true, true, false, false, false, false, false, false, false, false, false, false, false, false, false] rfl rfl (by kernel_rfl) (fun _ _ _ h => h) (Or.inl ⟨by rfl, ?_⟩) hHeld ?_ ?_
    rotate_left
    · rintro w' ⟨s0, s1, s2⟩
      go_simp
      with_reducible rfl
    rotate_left
    · simp only [Act.put, List.setIfInBounds_toArray, List.set_cons_zero, List.set_cons_succ, i64_w, i32_w]
      rfl
    refine pure_ (i := 4) (N := (some 27)) (v := ?_) (a' := ?_) #[true, true, true, true, true, false, false, false, false, false, false, false, false, false, false, false, false] rfl rfl (by kernel_rfl) (fun _ _ _ h => h) (Or.inl ⟨by rfl, ?_⟩) ?_ ?_
    rotate_left
    · intro w'
      go_simp
      with_reducible rfl
    rotate_left
    · simp only [Act.put, List.setIfInBounds_toArray, List.set_cons_zero, List.set_cons_succ, i64_w, i32_w]
      rfl
    refine take_ (i := 5) (N := (some 28)) (v := ?_) (a' := ?_) #[true, true, true, true, true, true, false, false, false, false, false, false, false, false, false, false, false] rfl rfl (by kernel_rfl) (fun _ _ _ h => h) (Or.inl ⟨by rfl, ?_⟩) hHeld ?_ ?_
    rotate_left
    · rintro w' ⟨s0, s1, s2⟩
      go_simp
      with_reducible rfl
    rotate_left
    · simp only [Act.put, List.setIfInBounds_toArray, List.set_cons_zero, List.set_cons_succ, i64_w, i32_w]
      rfl
    refine pure_ (i := 7) (N := (some 30)) (v := ?_) (a' := ?_) #[true, true, true, true, true, true, false, true, false, false, false, false, false, false, false, false, false] rfl rfl (by kernel_rfl) (fun _ _ _ h => h) (Or.inl ⟨by rfl, ?_⟩) ?_ ?_
    rotate_left
    · intro w'
      go_simp
      with_reducible rfl
    rotate_left
    · simp only [Act.put, List.setIfInBounds_toArray, List.set_cons_zero, List.set_cons_succ, i64_w, i32_w]
      rfl
    refine take_ (i := 8) (N := (some 31)) (v := ?_) (a' := ?_) #[true, true, true, true, true, true, false, true, true, false, false, false, false, false, false, false, false] rfl rfl (by kernel_rfl) (fun _ _ _ h => h) (Or.inl ⟨by rfl, ?_⟩) hHeld ?_ ?_
    rotate_left
    · rintro w' ⟨s0, s1, s2⟩
      go_simp
      with_reducible rfl
    rotate_left
    · simp only [Act.put, List.setIfInBounds_toArray, List.set_cons_zero, List.set_cons_succ, i64_w, i32_w]
      rfl
    refine pure_ (i := 9) (N := (some 32)) (v := ?_) (a' := ?_) #[true, true, true, true, true, true, false, true, true, true, false, false, false, false, false, false, false] rfl rfl (by kernel_rfl) (fun _ _ _ h => h) (Or.inl ⟨by rfl, ?_⟩) ?_ ?_
    rotate_left
    · intro w'
      go_simp
      with_reducible rfl
    rotate_left
    · simp only [Act.put, List.setIfInBounds_toArray, List.set_cons_zero, List.set_cons_succ, i64_w, i32_w]
      rfl
    refine take_ (i := 10) (N := (some 33)) (v := ?_) (a' := ?_) #[true, true, true, true, true, true, false, true, true, true, true, false, false, false, false, false, false] rfl rfl (by kernel_rfl) (fun _ _ _ h => h) (Or.inl ⟨by rfl, ?_⟩) hHeld ?_ ?_
    rotate_left
    · rintro w' ⟨s0, s1, s2⟩
      go_simp
      with_reducible rfl
    rotate_left
    · simp only [Act.put, List.setIfInBounds_toArray, List.set_cons_zero, List.set_cons_succ, i64_w, i32_w]
      rfl
    refine pure_ (i := 11) (N := (some 34)) (v := ?_) (a' := ?_) #[true, true, true, true, true, true, false, true, true, true, true, true, false, false, false, false, false] rfl rfl (by kernel_rfl) (fun _ _ _ h => h) (Or.inl ⟨by rfl, ?_⟩) ?_ ?_
    rotate_left
    · intro w'
      go_simp
      with_reducible rfl
    rotate_left
    · simp only [Act.put, List.setIfInBounds_toArray, List.set_cons_zero, List.set_cons_succ, i64_w, i32_w]
      rfl
    refine take_ (i := 12) (N := (some 35)) (v := ?_) (a' := ?_) #[true, true, true, true, true, true, false, true, true, true, true, true, true, false, false, false, false] rfl rfl (by kernel_rfl) (fun _ _ _ h => h) (Or.inl ⟨by rfl, ?_⟩) hHeld ?_ ?_
    rotate_left
    · rintro w' ⟨s0, s1, s2⟩
      go_simp
      with_reducible rfl
    rotate_left
    · simp only [Act.put, List.setIfInBounds_toArray, List.set_cons_zero, List.set_cons_succ, i64_w, i32_w]
      rfl
    refine two_ (i := 6) (j := 14) (Ni := (some 29)) (Nj := (some 6)) #[true, true, true, true, true, true, true, true, true, true, true, true, true, false, false, false, false] #[true, true, true, true, true, true, false, true, true, true, true, true, true, false, true, false, false] rfl rfl rfl rfl (by kernel_rfl) (by decide) (by decide) (fun K hK => ?_) (fun K hK => ?_)
    · skip
      refine goes_ Tryd.func6 (by kernel_rfl) rfl #[.int .i64 p0, .int .i64 p1, .int .i64 p2] (by rfl) rfl rfl (by (try simp only [List.map_toArray, List.map_cons, List.map_nil]); first | done | rfl) ?_
      refine (ground_New.calls p0 p1 p2 (mx p0 0) p1 p2 0 false w Wd HB.out rfl).mono ?_
      rintro e Wdx6 ⟨g, rfl, hI, hB, hb⟩
      have HI := Aside0.mk hI
      replace HX2 := Aside0.mk (blk_below HX2.out hb)
      replace HB := Aside0.mk hB
      clear hI hB hb hHeld
      refine ⟨_, rfl, ?_⟩
      refine hK.out _ _ ⟨(blk_cell HX2.out 0).trans rfl, (blk_cell HX2.out 1).trans rfl, (blk_cell HX2.out 2).trans rfl⟩ (fun hHeld => ?_)
      clear hK K
      refine norm_ (a' := ?_) ?_ ?_
      rotate_left
      · show Act.put _ (some 29) _ = _
        simp only [Act.put, List.setIfInBounds_toArray, List.set_cons_zero, List.set_cons_succ, i64_w, i32_w]
        rfl
      refine two_ (i := 13) (j := 14) (Ni := (some 36)) (Nj := (some 6)) #[true, true, true, true, true, true, true, true, true, true, true, true, true, true, false, false, false] #[true, true, true, true, true, true, true, true, true, true, true, true, true, false, true, false, false] rfl rfl rfl rfl (by kernel_rfl) (by decide) (by decide) (fun K hK => ?_) (fun K hK => ?_)
      · skip
        refine goes_ Tryd.func7 (by kernel_rfl) rfl #[.int .i64 p0, .int .i64 p1, .int .i64 p2] (by rfl) rfl rfl (by (try simp only [List.map_toArray, List.map_cons, List.map_nil]); first | done | rfl) ?_
        refine (aneroidref18_New.calls p0 p1 p2 (mx p0 0) p1 p2 0 Wdx6 (refnew_f p0 p1 p2)).mono ?_
        rintro e Wdx6x13 ⟨rfl, hb⟩
        replace HI := Aside0.mk (HI.out.below hb)
        replace HX2 := Aside0.mk (blk_below HX2.out hb)
        replace HB := Aside0.mk (below_step HB.out hb)
        clear hb hHeld
        refine ⟨_, rfl, ?_⟩
        refine hK.out _ _ ⟨(blk_cell HX2.out 0).trans rfl, (blk_cell HX2.out 1).trans rfl, (blk_cell HX2.out 2).trans rfl⟩ (fun hHeld => ?_)
        clear hK K
        refine norm_ (a' := ?_) ?_ ?_
        rotate_left
        · show Act.put _ (some 36) _ = _
          simp only [Act.put, List.setIfInBounds_toArray, List.set_cons_zero, List.set_cons_succ, i64_w, i32_w]
          rfl
        refine one_ (i := 14) (N := (some 6)) #[true, true, true, true, true, true, true, true, true, true, true, true, true, true, true, false, false] rfl rfl (by kernel_rfl) (by decide) (fun K hK => ?_)
        refine event_step (v := .pointer (some ⟨Wdx6x13.heap.size, 0, none⟩)) (w1 := Wdx6x13.alloc (.cells #[.int .i64 0, .int .i64 0, .int .i64 0, .int .i64 0] 28)) (by rfl) (by first | (go_simp; done) | (go_simp; rfl)) ?_
        have HX6 := Aside0.mk (blk_new Wdx6x13 (.cells #[.int .i64 0, .int .i64 0, .int .i64 0, .int .i64 0] 28))
        have HG6 := Aside0.mk HB.out.size
        replace HX2 := Aside0.mk (blk_alloc HX2.out (.cells #[.int .i64 0, .int .i64 0, .int .i64 0, .int .i64 0] 28))
        replace HI := Aside0.mk (HI.out.alloc (.cells #[.int .i64 0, .int .i64 0, .int .i64 0, .int .i64 0] 28))
        replace HB := Aside0.mk (below_alloc HB.out (.cells #[.int .i64 0, .int .i64 0, .int .i64 0, .int .i64 0] 28))
        clear hHeld
        generalize Wdx6x13.alloc (.cells #[.int .i64 0, .int .i64 0, .int .i64 0, .int .i64 0] 28) = Wdx6x13x14 at HX2 HX6 HB HI ⊢
        generalize Wdx6x13.heap.size = b6 at HX6 HG6 ⊢
        refine hK.out _ _ ⟨(blk_cell HX2.out 0).trans rfl, (blk_cell HX2.out 1).trans rfl, (blk_cell HX2.out 2).trans rfl⟩ (fun hHeld => ?_)
        clear hK K
        refine norm_ (a' := ?_) ?_ ?_
        rotate_left
        · show Act.put _ (some 6) _ = _
          simp only [Act.put, List.setIfInBounds_toArray, List.set_cons_zero, List.set_cons_succ, i64_w, i32_w]
          rfl
        refine pure_ (i := 15) (N := (some 5)) (v := ?_) (a' := ?_) #[true, true, true, true, true, true, true, true, true, true, true, true, true, true, true, true, false] rfl rfl (by kernel_rfl) (fun _ _ _ h => h) (Or.inl ⟨by rfl, ?_⟩) ?_ ?_
        rotate_left
        · intro w'
          go_simp
          with_reducible rfl
        rotate_left
        · simp only [Act.put, List.setIfInBounds_toArray, List.set_cons_zero, List.set_cons_succ, i64_w, i32_w]
          rfl
        have c0 : Wdx6x13x14.cell? ⟨b6, 0, none⟩ = some (.int .i64 0) := (blk_cell HX6.out 0).trans rfl
        have f0 := blk_frozen HX6.out 0
        have c1 : Wdx6x13x14.cell? ⟨b6, 1, none⟩ = some (.int .i64 0) := (blk_cell HX6.out 1).trans rfl
        have f1 := blk_frozen HX6.out 1
        have c2 : Wdx6x13x14.cell? ⟨b6, 2, none⟩ = some (.int .i64 0) := (blk_cell HX6.out 2).trans rfl
        have f2 := blk_frozen HX6.out 2
        have c3 : Wdx6x13x14.cell? ⟨b6, 3, none⟩ = some (.int .i64 0) := (blk_cell HX6.out 3).trans rfl
        have f3 := blk_frozen HX6.out 3
        have n26 : b2 ≠ b6 := by rintro rfl; have h1 := HX2.out; have h2 := HX6.out; rw [h1] at h2; simp at h2
        have ng6 : g ≠ b6 := HI.out.ne_blk HX6.out (by decide)
        refine one_ (i := 16) (N := none) #[true, true, true, true, true, true, true, true, true, true, true, true, true, true, true, true, true] rfl rfl (by kernel_rfl) (by decide) (fun K hK => ?_)
        refine skip_ (w1 := ((((Wdx6x13x14.setCell ⟨b6, 0, none⟩ (.int .i64 (mx p0 0))).setCell ⟨b6, 1, none⟩ (.int .i64 p1)).setCell ⟨b6, 2, none⟩ (.int .i64 p2)).setCell ⟨b6, 3, none⟩ (.int .i64 0))) (by rfl) rfl (by first | (go_simp; done) | (go_simp; rfl)) ?_
        obtain ⟨q6, qb⟩ := four_any HX6.out (.int .i64 (mx p0 0)) (.int .i64 p1) (.int .i64 p2) (.int .i64 0) HG6.out HB.out
        have q2 := HX2.out
        have qi := HI.out
        replace q2 := blk_far q2 (p := ⟨b6, 0, none⟩) n26 (.int .i64 (mx p0 0))
        replace qi := IsS47.far qi (p := ⟨b6, 0, none⟩) ng6 (.int .i64 (mx p0 0))
        replace q2 := blk_far q2 (p := ⟨b6, 1, none⟩) n26 (.int .i64 p1)
        replace qi := IsS47.far qi (p := ⟨b6, 1, none⟩) ng6 (.int .i64 p1)
        replace q2 := blk_far q2 (p := ⟨b6, 2, none⟩) n26 (.int .i64 p2)
        replace qi := IsS47.far qi (p := ⟨b6, 2, none⟩) ng6 (.int .i64 p2)
        replace q2 := blk_far q2 (p := ⟨b6, 3, none⟩) n26 (.int .i64 0)
        replace qi := IsS47.far qi (p := ⟨b6, 3, none⟩) ng6 (.int .i64 0)
        generalize (((Wdx6x13x14.setCell ⟨b6, 0, none⟩ (.int .i64 (mx p0 0))).setCell ⟨b6, 1, none⟩ (.int .i64 p1)).setCell ⟨b6, 2, none⟩ (.int .i64 p2)).setCell ⟨b6, 3, none⟩ (.int .i64 0) = WZ at q6 qb q2 qi ⊢
        refine hK.out _ _ ⟨(blk_cell q2 0).trans rfl, (blk_cell q2 1).trans rfl, (blk_cell q2 2).trans rfl⟩ (fun hHeld => ?_)
        clear hK K
        refine done_ (by kernel_rfl) ?_
        go_wp2
        go_meet
        case rel => exact ⟨g, b6, rfl, rfl, ⟨qi⟩, ⟨q6⟩, HG6, ⟨qb⟩⟩
      · skip
        refine event_step (v := .pointer (some ⟨Wdx6.heap.size, 0, none⟩)) (w1 := Wdx6.alloc (.cells #[.int .i64 0, .int .i64 0, .int .i64 0, .int .i64 0] 28)) (by rfl) (by first | (go_simp; done) | (go_simp; rfl)) ?_
        have HX6 := Aside0.mk (blk_new Wdx6 (.cells #[.int .i64 0, .int .i64 0, .int .i64 0, .int .i64 0] 28))
        have HG6 := Aside0.mk HB.out.size
        replace HX2 := Aside0.mk (blk_alloc HX2.out (.cells #[.int .i64 0, .int .i64 0, .int .i64 0, .int .i64 0] 28))
        replace HI := Aside0.mk (HI.out.alloc (.cells #[.int .i64 0, .int .i64 0, .int .i64 0, .int .i64 0] 28))
        replace HB := Aside0.mk (below_alloc HB.out (.cells #[.int .i64 0, .int .i64 0, .int .i64 0, .int .i64 0] 28))
        clear hHeld
        generalize Wdx6.alloc (.cells #[.int .i64 0, .int .i64 0, .int .i64 0, .int .i64 0] 28) = Wdx6x14 at HX2 HX6 HB HI ⊢
        generalize Wdx6.heap.size = b6 at HX6 HG6 ⊢
        refine hK.out _ _ ⟨(blk_cell HX2.out 0).trans rfl, (blk_cell HX2.out 1).trans rfl, (blk_cell HX2.out 2).trans rfl⟩ (fun hHeld => ?_)
        clear hK K
        refine norm_ (a' := ?_) ?_ ?_
        rotate_left
        · show Act.put _ (some 6) _ = _
          simp only [Act.put, List.setIfInBounds_toArray, List.set_cons_zero, List.set_cons_succ, i64_w, i32_w]
          rfl
        refine one_ (i := 13) (N := (some 36)) #[true, true, true, true, true, true, true, true, true, true, true, true, true, true, true, false, false] rfl rfl (by kernel_rfl) (by decide) (fun K hK => ?_)
        refine goes_ Tryd.func7 (by kernel_rfl) rfl #[.int .i64 p0, .int .i64 p1, .int .i64 p2] (by rfl) rfl rfl (by (try simp only [List.map_toArray, List.map_cons, List.map_nil]); first | done | rfl) ?_
        refine (aneroidref18_New.calls p0 p1 p2 (mx p0 0) p1 p2 0 Wdx6x14 (refnew_f p0 p1 p2)).mono ?_
        rintro e Wdx6x14x13 ⟨rfl, hb⟩
        replace HI := Aside0.mk (HI.out.below hb)
        replace HX2 := Aside0.mk (blk_below HX2.out hb)
        replace HX6 := Aside0.mk (blk_below HX6.out hb)
        replace HB := Aside0.mk (below_step HB.out hb)
        clear hb hHeld
        refine ⟨_, rfl, ?_⟩
        refine hK.out _ _ ⟨(blk_cell HX2.out 0).trans rfl, (blk_cell HX2.out 1).trans rfl, (blk_cell HX2.out 2).trans rfl⟩ (fun hHeld => ?_)
        clear hK K
        refine norm_ (a' := ?_) ?_ ?_
        rotate_left
        · show Act.put _ (some 36) _ = _
          simp only [Act.put, List.setIfInBounds_toArray, List.set_cons_zero, List.set_cons_succ, i64_w, i32_w]
          rfl
        refine pure_ (i := 15) (N := (some 5)) (v := ?_) (a' := ?_) #[true, true, true, true, true, true, true, true, true, true, true, true, true, true, true, true, false] rfl rfl (by kernel_rfl) (fun _ _ _ h => h) (Or.inl ⟨by rfl, ?_⟩) ?_ ?_
        rotate_left
        · intro w'
          go_simp
          with_reducible rfl
        rotate_left
        · simp only [Act.put, List.setIfInBounds_toArray, List.set_cons_zero, List.set_cons_succ, i64_w, i32_w]
          rfl
        have c0 : Wdx6x14x13.cell? ⟨b6, 0, none⟩ = some (.int .i64 0) := (blk_cell HX6.out 0).trans rfl
        have f0 := blk_frozen HX6.out 0
        have c1 : Wdx6x14x13.cell? ⟨b6, 1, none⟩ = some (.int .i64 0) := (blk_cell HX6.out 1).trans rfl
        have f1 := blk_frozen HX6.out 1
        have c2 : Wdx6x14x13.cell? ⟨b6, 2, none⟩ = some (.int .i64 0) := (blk_cell HX6.out 2).trans rfl
        have f2 := blk_frozen HX6.out 2
        have c3 : Wdx6x14x13.cell? ⟨b6, 3, none⟩ = some (.int .i64 0) := (blk_cell HX6.out 3).trans rfl
        have f3 := blk_frozen HX6.out 3
        have n26 : b2 ≠ b6 := by rintro rfl; have h1 := HX2.out; have h2 := HX6.out; rw [h1] at h2; simp at h2
        have ng6 : g ≠ b6 := HI.out.ne_blk HX6.out (by decide)
        refine one_ (i := 16) (N := none) #[true, true, true, true, true, true, true, true, true, true, true, true, true, true, true, true, true] rfl rfl (by kernel_rfl) (by decide) (fun K hK => ?_)
        refine skip_ (w1 := ((((Wdx6x14x13.setCell ⟨b6, 0, none⟩ (.int .i64 (mx p0 0))).setCell ⟨b6, 1, none⟩ (.int .i64 p1)).setCell ⟨b6, 2, none⟩ (.int .i64 p2)).setCell ⟨b6, 3, none⟩ (.int .i64 0))) (by rfl) rfl (by first | (go_simp; done) | (go_simp; rfl)) ?_
        obtain ⟨q6, qb⟩ := four_any HX6.out (.int .i64 (mx p0 0)) (.int .i64 p1) (.int .i64 p2) (.int .i64 0) HG6.out HB.out
        have q2 := HX2.out
        have qi := HI.out
        replace q2 := blk_far q2 (p := ⟨b6, 0, none⟩) n26 (.int .i64 (mx p0 0))
        replace qi := IsS47.far qi (p := ⟨b6, 0, none⟩) ng6 (.int .i64 (mx p0 0))
        replace q2 := blk_far q2 (p := ⟨b6, 1, none⟩) n26 (.int .i64 p1)
        replace qi := IsS47.far qi (p := ⟨b6, 1, none⟩) ng6 (.int .i64 p1)
        replace q2 := blk_far q2 (p := ⟨b6, 2, none⟩) n26 (.int .i64 p2)
        replace qi := IsS47.far qi (p := ⟨b6, 2, none⟩) ng6 (.int .i64 p2)
        replace q2 := blk_far q2 (p := ⟨b6, 3, none⟩) n26 (.int .i64 0)
        replace qi := IsS47.far qi (p := ⟨b6, 3, none⟩) ng6 (.int .i64 0)
        generalize (((Wdx6x14x13.setCell ⟨b6, 0, none⟩ (.int .i64 (mx p0 0))).setCell ⟨b6, 1, none⟩ (.int .i64 p1)).setCell ⟨b6, 2, none⟩ (.int .i64 p2)).setCell ⟨b6, 3, none⟩ (.int .i64 0) = WZ at q6 qb q2 qi ⊢
        refine hK.out _ _ ⟨(blk_cell q2 0).trans rfl, (blk_cell q2 1).trans rfl, (blk_cell q2 2).trans rfl⟩ (fun hHeld => ?_)
        clear hK K
        refine done_ (by kernel_rfl) ?_
        go_wp2
        go_meet
        case rel => exact ⟨g, b6, rfl, rfl, ⟨qi⟩, ⟨q6⟩, HG6, ⟨qb⟩⟩
    · skip
      refine event_step (v := .pointer (some ⟨Wd.heap.size, 0, none⟩)) (w1 := Wd.alloc (.cells #[.int .i64 0, .int .i64 0, .int .i64 0, .int .i64 0] 28)) (by rfl) (by first | (go_simp; done) | (go_simp; rfl)) ?_
      have HX6 := Aside0.mk (blk_new Wd (.cells #[.int .i64 0, .int .i64 0, .int .i64 0, .int .i64 0] 28))
      have HG6 := Aside0.mk HB.out.size
      replace HX2 := Aside0.mk (blk_alloc HX2.out (.cells #[.int .i64 0, .int .i64 0, .int .i64 0, .int .i64 0] 28))
      replace HB := Aside0.mk (below_alloc HB.out (.cells #[.int .i64 0, .int .i64 0, .int .i64 0, .int .i64 0] 28))
      clear hHeld
      generalize Wd.alloc (.cells #[.int .i64 0, .int .i64 0, .int .i64 0, .int .i64 0] 28) = Wdx14 at HX2 HX6 HB  ⊢
      generalize Wd.heap.size = b6 at HX6 HG6 ⊢
      refine hK.out _ _ ⟨(blk_cell HX2.out 0).trans rfl, (blk_cell HX2.out 1).trans rfl, (blk_cell HX2.out 2).trans rfl⟩ (fun hHeld => ?_)
      clear hK K
      refine norm_ (a' := ?_) ?_ ?_
      rotate_left
      · show Act.put _ (some 6) _ = _
        simp only [Act.put, List.setIfInBounds_toArray, List.set_cons_zero, List.set_cons_succ, i64_w, i32_w]
        rfl
      refine one_ (i := 6) (N := (some 29)) #[true, true, true, true, true, true, true, true, true, true, true, true, true, false, true, false, false] rfl rfl (by kernel_rfl) (by decide) (fun K hK => ?_)
      refine goes_ Tryd.func6 (by kernel_rfl) rfl #[.int .i64 p0, .int .i64 p1, .int .i64 p2] (by rfl) rfl rfl (by (try simp only [List.map_toArray, List.map_cons, List.map_nil]); first | done | rfl) ?_
      refine (ground_New.calls p0 p1 p2 (mx p0 0) p1 p2 0 false w Wdx14 HB.out rfl).mono ?_
      rintro e Wdx14x6 ⟨g, rfl, hI, hB, hb⟩
      have HI := Aside0.mk hI
      replace HX2 := Aside0.mk (blk_below HX2.out hb)
      replace HX6 := Aside0.mk (blk_below HX6.out hb)
      replace HB := Aside0.mk hB
      clear hI hB hb hHeld
      refine ⟨_, rfl, ?_⟩
      refine hK.out _ _ ⟨(blk_cell HX2.out 0).trans rfl, (blk_cell HX2.out 1).trans rfl, (blk_cell HX2.out 2).trans rfl⟩ (fun hHeld => ?_)
      clear hK K
      refine norm_ (a' := ?_) ?_ ?_
      rotate_left
      · show Act.put _ (some 29) _ = _
        simp only [Act.put, List.setIfInBounds_toArray, List.set_cons_zero, List.set_cons_succ, i64_w, i32_w]
        rfl
      refine one_ (i := 13) (N := (some 36)) #[true, true, true, true, true, true, true, true, true, true, true, true, true, true, true, false, false] rfl rfl (by kernel_rfl) (by decide) (fun K hK => ?_)
      refine goes_ Tryd.func7 (by kernel_rfl) rfl #[.int .i64 p0, .int .i64 p1, .int .i64 p2] (by rfl) rfl rfl (by (try simp only [List.map_toArray, List.map_cons, List.map_nil]); first | done | rfl) ?_
      refine (aneroidref18_New.calls p0 p1 p2 (mx p0 0) p1 p2 0 Wdx14x6 (refnew_f p0 p1 p2)).mono ?_
      rintro e Wdx14x6x13 ⟨rfl, hb⟩
      replace HI := Aside0.mk (HI.out.below hb)
      replace HX2 := Aside0.mk (blk_below HX2.out hb)
      replace HX6 := Aside0.mk (blk_below HX6.out hb)
      replace HB := Aside0.mk (below_step HB.out hb)
      clear hb hHeld
      refine ⟨_, rfl, ?_⟩
      refine hK.out _ _ ⟨(blk_cell HX2.out 0).trans rfl, (blk_cell HX2.out 1).trans rfl, (blk_cell HX2.out 2).trans rfl⟩ (fun hHeld => ?_)
      clear hK K
      refine norm_ (a' := ?_) ?_ ?_
      rotate_left
      · show Act.put _ (some 36) _ = _
        simp only [Act.put, List.setIfInBounds_toArray, List.set_cons_zero, List.set_cons_succ, i64_w, i32_w]
        rfl
      refine pure_ (i := 15) (N := (some 5)) (v := ?_) (a' := ?_) #[true, true, true, true, true, true, true, true, true, true, true, true, true, true, true, true, false] rfl rfl (by kernel_rfl) (fun _ _ _ h => h) (Or.inl ⟨by rfl, ?_⟩) ?_ ?_
      rotate_left
      · intro w'
        go_simp
        with_reducible rfl
      rotate_left
      · simp only [Act.put, List.setIfInBounds_toArray, List.set_cons_zero, List.set_cons_succ, i64_w, i32_w]
        rfl
      have c0 : Wdx14x6x13.cell? ⟨b6, 0, none⟩ = some (.int .i64 0) := (blk_cell HX6.out 0).trans rfl
      have f0 := blk_frozen HX6.out 0
      have c1 : Wdx14x6x13.cell? ⟨b6, 1, none⟩ = some (.int .i64 0) := (blk_cell HX6.out 1).trans rfl
      have f1 := blk_frozen HX6.out 1
      have c2 : Wdx14x6x13.cell? ⟨b6, 2, none⟩ = some (.int .i64 0) := (blk_cell HX6.out 2).trans rfl
      have f2 := blk_frozen HX6.out 2
      have c3 : Wdx14x6x13.cell? ⟨b6, 3, none⟩ = some (.int .i64 0) := (blk_cell HX6.out 3).trans rfl
      have f3 := blk_frozen HX6.out 3
      have n26 : b2 ≠ b6 := by rintro rfl; have h1 := HX2.out; have h2 := HX6.out; rw [h1] at h2; simp at h2
      have ng6 : g ≠ b6 := HI.out.ne_blk HX6.out (by decide)
      refine one_ (i := 16) (N := none) #[true, true, true, true, true, true, true, true, true, true, true, true, true, true, true, true, true] rfl rfl (by kernel_rfl) (by decide) (fun K hK => ?_)
      refine skip_ (w1 := ((((Wdx14x6x13.setCell ⟨b6, 0, none⟩ (.int .i64 (mx p0 0))).setCell ⟨b6, 1, none⟩ (.int .i64 p1)).setCell ⟨b6, 2, none⟩ (.int .i64 p2)).setCell ⟨b6, 3, none⟩ (.int .i64 0))) (by rfl) rfl (by first | (go_simp; done) | (go_simp; rfl)) ?_
      obtain ⟨q6, qb⟩ := four_any HX6.out (.int .i64 (mx p0 0)) (.int .i64 p1) (.int .i64 p2) (.int .i64 0) HG6.out HB.out
      have q2 := HX2.out
      have qi := HI.out
      replace q2 := blk_far q2 (p := ⟨b6, 0, none⟩) n26 (.int .i64 (mx p0 0))
      replace qi := IsS47.far qi (p := ⟨b6, 0, none⟩) ng6 (.int .i64 (mx p0 0))
      replace q2 := blk_far q2 (p := ⟨b6, 1, none⟩) n26 (.int .i64 p1)
      replace qi := IsS47.far qi (p := ⟨b6, 1, none⟩) ng6 (.int .i64 p1)
      replace q2 := blk_far q2 (p := ⟨b6, 2, none⟩) n26 (.int .i64 p2)
      replace qi := IsS47.far qi (p := ⟨b6, 2, none⟩) ng6 (.int .i64 p2)
      replace q2 := blk_far q2 (p := ⟨b6, 3, none⟩) n26 (.int .i64 0)
      replace qi := IsS47.far qi (p := ⟨b6, 3, none⟩) ng6 (.int .i64 0)
      generalize (((Wdx14x6x13.setCell ⟨b6, 0, none⟩ (.int .i64 (mx p0 0))).setCell ⟨b6, 1, none⟩ (.int .i64 p1)).setCell ⟨b6, 2, none⟩ (.int .i64 p2)).setCell ⟨b6, 3, none⟩ (.int .i64 0) = WZ at q6 qb q2 qi ⊢
      refine hK.out _ _ ⟨(blk_cell q2 0).trans rfl, (blk_cell q2 1).trans rfl, (blk_cell q2 2).trans rfl⟩ (fun hHeld => ?_)
      clear hK K
      refine done_ (by kernel_rfl) ?_
      go_wp2
      go_meet
      case rel => exact ⟨g, b6, rfl, rfl, ⟨qi⟩, ⟨q6⟩, HG6, ⟨qb⟩⟩
-- END
  case rest =>
    clear HB HX2
    obtain ⟨g, b6, rfl, rfl, HI, HX6, HG6, HB⟩ := hcut
    go_wp2_with fail
    go_loopw [41] (fun v41 wr => ∃ (i : Nat) (X : Int), i ≤ l.length ∧ v41 = .int .i64 i ∧ Aside0 (X = 0 ∨ good X = true) ∧ Aside0 (IsS47 w wr g (mx p0 0) p1 p2 X (decide (X ≠ 0))) ∧ Aside0 (wr.heap[b6]? = some (.cells #[.int .i64 (mx p0 0), .int .i64 p1, .int .i64 p2, .int .i64 X] 28 (0, 0))) ∧ Aside0 (Below w.heap.size w wr)) (fun v41 _ => l.length - (intOf v41).toNat)
    case atStart => exact ⟨0, 0, Nat.zero_le _, rfl, ⟨.inl rfl⟩, by simpa using HI, HX6, HB⟩
    case round =>
      clear HI HX6 HB
      obtain ⟨i, X, hi, rfl, HXG, HI, HX6, HB⟩ := hrel
      by_cases hlt : i < l.length
      · have q0 : decide ((i : Int) < (l.length : Int)) = true := decide_eq_true (by omega)
-- BODY
        obtain ⟨ad, rfl, hx⟩ := Kd.at_int (Kd.C_below HR.out HB.out) (i : Int) (Int.natCast_nonneg i) (Int.ofNat_lt.2 hlt)
        rw [Int.toNat_natCast] at hx
        obtain ⟨c, hc⟩ : ∃ c, c = rd l (i : Int) := ⟨_, rfl⟩
        rw [← hc] at hx
        clear hc
        go_wp2_with fail
        · clear hx
          refine (set_is w _ g _ _ _ _ _ HXG.out HI.out HB.out).mono ?_
          rintro e w1 ⟨rfl, hI, hB, hk⟩
          have n6 : b6 ≠ g := Ne.symm (HI.out.ne_blk HX6.out (by decide))
          replace HX6 := Aside0.mk ((hk.2 b6 (blk_lt HX6.out) n6 (by simp)).trans HX6.out)
          replace HI := Aside0.mk hI
          replace HB := Aside0.mk hB
          replace HXG := Aside0.mk (newX_good X c HXG.out)
          have HF := Aside0.mk (refset_f (mx p0 0) p1 p2 X c)
          clear hI hB hk
          obtain ⟨Y, hY⟩ : ∃ Y, Y = newX X c := ⟨_, rfl⟩
          obtain ⟨E, hE⟩ : ∃ E, E = seE X c := ⟨_, rfl⟩
          rw [← hY] at HXG HI HF
          rw [← hE] at HF
          rw [← hE]
          clear hY hE
          have x0 : w1.cell? ⟨b6, 0, none⟩ = some (.int .i64 (mx p0 0)) := (blk_cell HX6.out 0).trans rfl
          have x1 : w1.cell? ⟨b6, 1, none⟩ = some (.int .i64 p1) := (blk_cell HX6.out 1).trans rfl
          have x2 : w1.cell? ⟨b6, 2, none⟩ = some (.int .i64 p2) := (blk_cell HX6.out 2).trans rfl
          have x3 : w1.cell? ⟨b6, 3, none⟩ = some (.int .i64 X) := (blk_cell HX6.out 3).trans rfl
          go_wp2_with fail
          clear x0 x1 x2 x3
          refine (aneroidref18_Ground_Set.calls (mx p0 0) p1 p2 X c (mx p0 0) p1 p2 Y E w1 HF.out).mono ?_
          rintro e w2 ⟨rfl, hb⟩
          clear HF
          replace HX6 := Aside0.mk (blk_below HX6.out hb)
          replace HI := Aside0.mk (HI.out.below hb)
          replace HB := Aside0.mk (below_step HB.out hb)
          clear hb
          go_upto_region 12 with fail
          have HX10 := Aside0.mk (blk_new w2 (.cells #[.int .i64 (mx p0 0), .int .i64 p1, .int .i64 p2, .int .i64 Y] 28))
          have n610 : b6 ≠ w2.heap.size := Nat.ne_of_lt (blk_lt HX6.out)
          replace HX6 := Aside0.mk (blk_alloc HX6.out (.cells #[.int .i64 (mx p0 0), .int .i64 p1, .int .i64 p2, .int .i64 Y] 28))
          replace HI := Aside0.mk (HI.out.alloc (.cells #[.int .i64 (mx p0 0), .int .i64 p1, .int .i64 p2, .int .i64 Y] 28))
          replace HB := Aside0.mk (below_alloc HB.out (.cells #[.int .i64 (mx p0 0), .int .i64 p1, .int .i64 p2, .int .i64 Y] 28))
          generalize w2.alloc (.cells #[.int .i64 (mx p0 0), .int .i64 p1, .int .i64 p2, .int .i64 Y] 28) = w3 at HX6 HX10 HI HB ⊢
          generalize w2.heap.size = b10 at HX10 n610 ⊢
          have x0 : w3.cell? ⟨b10, 0, none⟩ = some (.int .i64 (mx p0 0)) := (blk_cell HX10.out 0).trans rfl
          have x1 : w3.cell? ⟨b10, 1, none⟩ = some (.int .i64 p1) := (blk_cell HX10.out 1).trans rfl
          have x2 : w3.cell? ⟨b10, 2, none⟩ = some (.int .i64 p2) := (blk_cell HX10.out 2).trans rfl
          have x3 : w3.cell? ⟨b10, 3, none⟩ = some (.int .i64 Y) := (blk_cell HX10.out 3).trans rfl
          have c0 : w3.cell? ⟨b6, 0, none⟩ = some (.int .i64 (mx p0 0)) := (blk_cell HX6.out 0).trans rfl
          have c1 : w3.cell? ⟨b6, 1, none⟩ = some (.int .i64 p1) := (blk_cell HX6.out 1).trans rfl
          have c2 : w3.cell? ⟨b6, 2, none⟩ = some (.int .i64 p2) := (blk_cell HX6.out 2).trans rfl
          have c3 : w3.cell? ⟨b6, 3, none⟩ = some (.int .i64 X) := (blk_cell HX6.out 3).trans rfl
          have f0 := blk_frozen HX6.out 0
          have f1 := blk_frozen HX6.out 1
          have f2 := blk_frozen HX6.out 2
          have f3 := blk_frozen HX6.out 3
          have ng6 : g ≠ b6 := Ne.symm n6
          go_wp2_with fail
          obtain ⟨q6, qb⟩ := four_any HX6.out (.int .i64 (mx p0 0)) (.int .i64 p1) (.int .i64 p2) (.int .i64 Y) HG6.out HB.out
          have qi := (((HI.out.far (p := ⟨b6, 0, none⟩) ng6 (.int .i64 (mx p0 0))).far (p := ⟨b6, 1, none⟩) ng6 (.int .i64 p1)).far (p := ⟨b6, 2, none⟩) ng6 (.int .i64 p2)).far (p := ⟨b6, 3, none⟩) ng6 (.int .i64 Y)
          clear x0 x1 x2 x3 c0 c1 c2 c3 f0 f1 f2 f3 HX10 n610
          generalize (((w3.setCell ⟨b6, 0, none⟩ (.int .i64 (mx p0 0))).setCell ⟨b6, 1, none⟩ (.int .i64 p1)).setCell ⟨b6, 2, none⟩ (.int .i64 p2)).setCell ⟨b6, 3, none⟩ (.int .i64 Y) = w4 at q6 qb qi ⊢
          replace HX6 := Aside0.mk q6
          replace HI := Aside0.mk qi
          replace HB := Aside0.mk qb
          clear q6 qb qi n6 ng6
          obtain ⟨z, ns, nr, ee, HLV, HRV, HNR, HRN⟩ := levels (mx p0 0) p1 p2 Y c (mx_pos p0) HXG.out
          obtain ⟨k, HK⟩ : ∃ k, Aside0 (decide (Y ≠ 0) = k ∧ decide (0 < Y) = k) := ⟨_, ⟨rfl, pos_ne HXG.out⟩⟩
          have HI0 := HI
          rw [HK.out.1] at HLV HNR HI
          have H0 := HK.out.2
          refine (level_is w w4 g _ _ _ _ _ c _ HI.out (HT.out.below HB.out) HLV.out).mono ?_
          rintro e u1 ⟨rfl, hb⟩
          replace HX6 := Aside0.mk (blk_below HX6.out hb)
          replace HI := Aside0.mk (HI.out.below hb)
          replace HB := Aside0.mk (below_step HB.out hb)
          clear hb HLV HI0
          have x0 : u1.cell? ⟨b6, 0, none⟩ = some (.int .i64 (mx p0 0)) := (blk_cell HX6.out 0).trans rfl
          have x1 : u1.cell? ⟨b6, 1, none⟩ = some (.int .i64 p1) := (blk_cell HX6.out 1).trans rfl
          have x2 : u1.cell? ⟨b6, 2, none⟩ = some (.int .i64 p2) := (blk_cell HX6.out 2).trans rfl
          have x3 : u1.cell? ⟨b6, 3, none⟩ = some (.int .i64 Y) := (blk_cell HX6.out 3).trans rfl
          go_wp2_with fail
          clear x0 x1 x2 x3
          refine (rlevel_is u1 (mx p0 0) p1 p2 Y c _ HRV.out).mono ?_
          rintro e u2 ⟨rfl, hb⟩
          replace HX6 := Aside0.mk (blk_below HX6.out hb)
          replace HI := Aside0.mk (HI.out.below hb)
          replace HB := Aside0.mk (below_step HB.out hb)
          clear hb HRV
          go_upto_region 17 with fail
          have HX16 := Aside0.mk (blk_new u2 (.cells #[.int .i64 z, .int .i64 ns, .bool nr, .int .i64 ee] 37))
          replace HX6 := Aside0.mk (blk_alloc HX6.out (.cells #[.int .i64 z, .int .i64 ns, .bool nr, .int .i64 ee] 37))
          replace HI := Aside0.mk (HI.out.alloc (.cells #[.int .i64 z, .int .i64 ns, .bool nr, .int .i64 ee] 37))
          replace HB := Aside0.mk (below_alloc HB.out (.cells #[.int .i64 z, .int .i64 ns, .bool nr, .int .i64 ee] 37))
          generalize u2.alloc (.cells #[.int .i64 z, .int .i64 ns, .bool nr, .int .i64 ee] 37) = u3 at HX6 HX16 HI HB ⊢
          generalize u2.heap.size = b16 at HX16 ⊢
          go_wp2_with fail
          refine (ground_Ground_Known.calls g (mx p0 0) p1 p2 Y k Y k (mx p0 0) p1 p2 Y k w u3 HI.out HB.out rfl).mono ?_
          rintro e u4 ⟨rfl, hI, hB, hk⟩
          have n6 : b6 ≠ g := Ne.symm (HI.out.ne_blk HX6.out (by decide))
          have n16 : b16 ≠ g := Ne.symm (HI.out.ne_blk HX16.out (by decide))
          replace HX6 := Aside0.mk ((hk.2 b6 (blk_lt HX6.out) n6 (by simp)).trans HX6.out)
          replace HX16 := Aside0.mk ((hk.2 b16 (blk_lt HX16.out) n16 (by simp)).trans HX16.out)
          replace HI := Aside0.mk hI
          replace HB := Aside0.mk hB
          clear hI hB hk n6 n16
          go_upto_region 18 with fail
          refine start_ (n := 44) (S := fun w' => w'.cell? ⟨b16, 0, none⟩ = some (.int .i64 z) ∧ w'.cell? ⟨b16, 1, none⟩ = some (.int .i64 ns) ∧ w'.cell? ⟨b16, 2, none⟩ = some (.bool nr) ∧ w'.cell? ⟨b16, 3, none⟩ = some (.int .i64 ee) ∧ w'.cell? ⟨b6, 0, none⟩ = some (.int .i64 (mx p0 0)) ∧ w'.cell? ⟨b6, 1, none⟩ = some (.int .i64 p1) ∧ w'.cell? ⟨b6, 2, none⟩ = some (.int .i64 p2) ∧ w'.cell? ⟨b6, 3, none⟩ = some (.int .i64 Y)) (ds := []) #[false, false, false, false, false, false, false, false, false, false, false, false, false, false, false, false, false, false, false, false, false, false, false, false, false, false, false, false, false, false, false, false, false, false, false, false, false, false, false, false, false, false, false, false] (by kernel_rfl) rfl rfl ⟨(blk_cell HX16.out 0).trans rfl, (blk_cell HX16.out 1).trans rfl, (blk_cell HX16.out 2).trans rfl, (blk_cell HX16.out 3).trans rfl, (blk_cell HX6.out 0).trans rfl, (blk_cell HX6.out 1).trans rfl, (blk_cell HX6.out 2).trans rfl, (blk_cell HX6.out 3).trans rfl⟩ (fun hHeld => ?_)
          replace HX6 := Aside0.mk (blk_drew HX6.out)
          replace HX16 := Aside0.mk (blk_drew HX16.out)
          replace HI := Aside0.mk HI.out.drew
          replace HB := Aside0.mk (below_drew HB.out)
          generalize u4.drew = Wd at HX6 HX16 HI HB hHeld ⊢
          refine pure_ (i := 0) (N := (some 78)) (v := ?_) (a' := ?_) #[true, false, false, false, false, false, false, false, false, false, false, false, false, false, false, false, false, false, false, false, false, false, false, false, false, false, false, false, false, false, false, false, false, false, false, false, false, false, false, false, false, false, false, false] rfl rfl (by kernel_rfl) (fun _ _ _ h => h) (Or.inl ⟨by rfl, ?_⟩) ?_ ?_
          rotate_left
          · intro w'
            go_simp
            with_reducible rfl
          rotate_left
          · simp only [Act.put, List.setIfInBounds_toArray, List.set_cons_zero, List.set_cons_succ, i64_w, i32_w]
            rfl
          refine pure_ (i := 1) (N := (some 79)) (v := ?_) (a' := ?_) #[true, true, false, false, false, false, false, false, false, false, false, false, false, false, false, false, false, false, false, false, false, false, false, false, false, false, false, false, false, false, false, false, false, false, false, false, false, false, false, false, false, false, false, false] rfl rfl (by kernel_rfl) (fun _ _ _ h => h) (Or.inl ⟨by rfl, ?_⟩) ?_ ?_
          rotate_left
          · intro w'
            go_simp
            with_reducible rfl
          rotate_left
          · simp only [Act.put, List.setIfInBounds_toArray, List.set_cons_zero, List.set_cons_succ, i64_w, i32_w]
            rfl
          refine take_ (i := 2) (N := (some 80)) (v := ?_) (a' := ?_) #[true, true, true, false, false, false, false, false, false, false, false, false, false, false, false, false, false, false, false, false, false, false, false, false, false, false, false, false, false, false, false, false, false, false, false, false, false, false, false, false, false, false, false, false] rfl rfl (by kernel_rfl) (fun _ _ _ h => h) (Or.inl ⟨by rfl, ?_⟩) hHeld ?_ ?_
          rotate_left
          · rintro w' ⟨s0, s1, s2, s3, s4, s5, s6, s7⟩
            go_simp
            with_reducible rfl
          rotate_left
          · simp only [Act.put, List.setIfInBounds_toArray, List.set_cons_zero, List.set_cons_succ, i64_w, i32_w]
            rfl
          refine pure_ (i := 3) (N := (some 81)) (v := .bool false) (a' := ?_) #[true, true, true, true, false, false, false, false, false, false, false, false, false, false, false, false, false, false, false, false, false, false, false, false, false, false, false, false, false, false, false, false, false, false, false, false, false, false, false, false, false, false, false, false] rfl rfl (by kernel_rfl) (fun _ _ _ h => h) (Or.inl ⟨by rfl, ?_⟩) ?_ ?_
          · intro w'
            first | (go_simp; with_reducible rfl) | (go_simp; done) | (simp [go_sem]; done)
          rotate_left
          · simp only [Act.put, List.setIfInBounds_toArray, List.set_cons_zero, List.set_cons_succ, i64_w, i32_w]
            rfl
          refine pure_ (i := 4) (N := (some 82)) (v := .bool false) (a' := ?_) #[true, true, true, true, true, false, false, false, false, false, false, false, false, false, false, false, false, false, false, false, false, false, false, false, false, false, false, false, false, false, false, false, false, false, false, false, false, false, false, false, false, false, false, false] rfl rfl (by kernel_rfl) (fun _ _ _ h => h) (Or.inl ⟨by rfl, ?_⟩) ?_ ?_
          · intro w'
            first | (go_simp; with_reducible rfl) | (go_simp; done) | (simp [go_sem]; done)
          rotate_left
          · simp only [Act.put, List.setIfInBounds_toArray, List.set_cons_zero, List.set_cons_succ, i64_w, i32_w]
            rfl
          refine pure_ (i := 5) (N := (some 83)) (v := ?_) (a' := ?_) #[true, true, true, true, true, true, false, false, false, false, false, false, false, false, false, false, false, false, false, false, false, false, false, false, false, false, false, false, false, false, false, false, false, false, false, false, false, false, false, false, false, false, false, false] rfl rfl (by kernel_rfl) (fun _ _ _ h => h) (Or.inl ⟨by rfl, ?_⟩) ?_ ?_
          rotate_left
          · intro w'
            go_simp
            with_reducible rfl
          rotate_left
          · simp only [Act.put, List.setIfInBounds_toArray, List.set_cons_zero, List.set_cons_succ, i64_w, i32_w]
            rfl
          refine pure_ (i := 6) (N := (some 84)) (v := ?_) (a' := ?_) #[true, true, true, true, true, true, true, false, false, false, false, false, false, false, false, false, false, false, false, false, false, false, false, false, false, false, false, false, false, false, false, false, false, false, false, false, false, false, false, false, false, false, false, false] rfl rfl (by kernel_rfl) (fun _ _ _ h => h) (Or.inl ⟨by rfl, ?_⟩) ?_ ?_
          rotate_left
          · intro w'
            go_simp
            with_reducible rfl
          rotate_left
          · simp only [Act.put, List.setIfInBounds_toArray, List.set_cons_zero, List.set_cons_succ, i64_w, i32_w]
            rfl
          refine take_ (i := 7) (N := (some 85)) (v := ?_) (a' := ?_) #[true, true, true, true, true, true, true, true, false, false, false, false, false, false, false, false, false, false, false, false, false, false, false, false, false, false, false, false, false, false, false, false, false, false, false, false, false, false, false, false, false, false, false, false] rfl rfl (by kernel_rfl) (fun _ _ _ h => h) (Or.inl ⟨by rfl, ?_⟩) hHeld ?_ ?_
          rotate_left
          · rintro w' ⟨s0, s1, s2, s3, s4, s5, s6, s7⟩
            go_simp
            with_reducible rfl
          rotate_left
          · simp only [Act.put, List.setIfInBounds_toArray, List.set_cons_zero, List.set_cons_succ, i64_w, i32_w]
            rfl
          refine pure_ (i := 8) (N := (some 86)) (v := .bool false) (a' := ?_) #[true, true, true, true, true, true, true, true, true, false, false, false, false, false, false, false, false, false, false, false, false, false, false, false, false, false, false, false, false, false, false, false, false, false, false, false, false, false, false, false, false, false, false, false] rfl rfl (by kernel_rfl) (fun _ _ _ h => h) (Or.inl ⟨by rfl, ?_⟩) ?_ ?_
          · intro w'
            first | (go_simp; with_reducible rfl) | (go_simp; done) | (simp [go_sem]; done)
          rotate_left
          · simp only [Act.put, List.setIfInBounds_toArray, List.set_cons_zero, List.set_cons_succ, i64_w, i32_w]
            rfl
          refine pure_ (i := 9) (N := (some 87)) (v := .bool false) (a' := ?_) #[true, true, true, true, true, true, true, true, true, true, false, false, false, false, false, false, false, false, false, false, false, false, false, false, false, false, false, false, false, false, false, false, false, false, false, false, false, false, false, false, false, false, false, false] rfl rfl (by kernel_rfl) (fun _ _ _ h => h) (Or.inl ⟨by rfl, ?_⟩) ?_ ?_
          · intro w'
            first | (go_simp; with_reducible rfl) | (go_simp; done) | (simp [go_sem]; done)
          rotate_left
          · simp only [Act.put, List.setIfInBounds_toArray, List.set_cons_zero, List.set_cons_succ, i64_w, i32_w]
            rfl
          refine pure_ (i := 10) (N := (some 88)) (v := .bool false) (a' := ?_) #[true, true, true, true, true, true, true, true, true, true, true, false, false, false, false, false, false, false, false, false, false, false, false, false, false, false, false, false, false, false, false, false, false, false, false, false, false, false, false, false, false, false, false, false] rfl rfl (by kernel_rfl) (fun _ _ _ h => h) (Or.inl ⟨by rfl, ?_⟩) ?_ ?_
          · intro w'
            first | (go_simp; with_reducible rfl) | (go_simp; done) | (simp [go_sem]; done)
          rotate_left
          · simp only [Act.put, List.setIfInBounds_toArray, List.set_cons_zero, List.set_cons_succ, i64_w, i32_w]
            rfl
          refine pure_ (i := 11) (N := (some 89)) (v := ?_) (a' := ?_) #[true, true, true, true, true, true, true, true, true, true, true, true, false, false, false, false, false, false, false, false, false, false, false, false, false, false, false, false, false, false, false, false, false, false, false, false, false, false, false, false, false, false, false, false] rfl rfl (by kernel_rfl) (fun _ _ _ h => h) (Or.inl ⟨by rfl, ?_⟩) ?_ ?_
          rotate_left
          · intro w'
            go_simp
            with_reducible rfl
          rotate_left
          · simp only [Act.put, List.setIfInBounds_toArray, List.set_cons_zero, List.set_cons_succ, i64_w, i32_w]
            rfl
          refine pure_ (i := 12) (N := (some 90)) (v := ?_) (a' := ?_) #[true, true, true, true, true, true, true, true, true, true, true, true, true, false, false, false, false, false, false, false, false, false, false, false, false, false, false, false, false, false, false, false, false, false, false, false, false, false, false, false, false, false, false, false] rfl rfl (by kernel_rfl) (fun _ _ _ h => h) (Or.inl ⟨by rfl, ?_⟩) ?_ ?_
          rotate_left
          · intro w'
            go_simp
            with_reducible rfl
          rotate_left
          · simp only [Act.put, List.setIfInBounds_toArray, List.set_cons_zero, List.set_cons_succ, i64_w, i32_w]
            rfl
          refine take_ (i := 13) (N := (some 91)) (v := ?_) (a' := ?_) #[true, true, true, true, true, true, true, true, true, true, true, true, true, true, false, false, false, false, false, false, false, false, false, false, false, false, false, false, false, false, false, false, false, false, false, false, false, false, false, false, false, false, false, false] rfl rfl (by kernel_rfl) (fun _ _ _ h => h) (Or.inl ⟨by rfl, ?_⟩) hHeld ?_ ?_
          rotate_left
          · rintro w' ⟨s0, s1, s2, s3, s4, s5, s6, s7⟩
            go_simp
            with_reducible rfl
          rotate_left
          · simp only [Act.put, List.setIfInBounds_toArray, List.set_cons_zero, List.set_cons_succ, i64_w, i32_w]
            rfl
          refine pure_ (i := 14) (N := (some 92)) (v := .bool false) (a' := ?_) #[true, true, true, true, true, true, true, true, true, true, true, true, true, true, true, false, false, false, false, false, false, false, false, false, false, false, false, false, false, false, false, false, false, false, false, false, false, false, false, false, false, false, false, false] rfl rfl (by kernel_rfl) (fun _ _ _ h => h) (Or.inl ⟨by rfl, ?_⟩) ?_ ?_
          · intro w'
            first | (go_simp; with_reducible rfl) | (go_simp; done) | (simp [go_sem]; done)
          rotate_left
          · simp only [Act.put, List.setIfInBounds_toArray, List.set_cons_zero, List.set_cons_succ, i64_w, i32_w]
            rfl
          refine pure_ (i := 15) (N := (some 93)) (v := .bool false) (a' := ?_) #[true, true, true, true, true, true, true, true, true, true, true, true, true, true, true, true, false, false, false, false, false, false, false, false, false, false, false, false, false, false, false, false, false, false, false, false, false, false, false, false, false, false, false, false] rfl rfl (by kernel_rfl) (fun _ _ _ h => h) (Or.inl ⟨by rfl, ?_⟩) ?_ ?_
          · intro w'
            first | (go_simp; with_reducible rfl) | (go_simp; done) | (simp [go_sem]; done)
          rotate_left
          · simp only [Act.put, List.setIfInBounds_toArray, List.set_cons_zero, List.set_cons_succ, i64_w, i32_w]
            rfl
          refine pure_ (i := 16) (N := (some 94)) (v := .bool false) (a' := ?_) #[true, true, true, true, true, true, true, true, true, true, true, true, true, true, true, true, true, false, false, false, false, false, false, false, false, false, false, false, false, false, false, false, false, false, false, false, false, false, false, false, false, false, false, false] rfl rfl (by kernel_rfl) (fun _ _ _ h => h) (Or.inl ⟨by rfl, ?_⟩) ?_ ?_
          · intro w'
            first | (go_simp; with_reducible rfl) | (go_simp; done) | (simp [go_sem]; done)
          rotate_left
          · simp only [Act.put, List.setIfInBounds_toArray, List.set_cons_zero, List.set_cons_succ, i64_w, i32_w]
            rfl
          refine pure_ (i := 17) (N := (some 95)) (v := ?_) (a' := ?_) #[true, true, true, true, true, true, true, true, true, true, true, true, true, true, true, true, true, true, false, false, false, false, false, false, false, false, false, false, false, false, false, false, false, false, false, false, false, false, false, false, false, false, false, false] rfl rfl (by kernel_rfl) (fun _ _ _ h => h) (Or.inl ⟨by rfl, ?_⟩) ?_ ?_
          rotate_left
          · intro w'
            go_simp
            with_reducible rfl
          rotate_left
          · simp only [Act.put, List.setIfInBounds_toArray, List.set_cons_zero, List.set_cons_succ, i64_w, i32_w]
            rfl
          refine pure_ (i := 18) (N := (some 96)) (v := ?_) (a' := ?_) #[true, true, true, true, true, true, true, true, true, true, true, true, true, true, true, true, true, true, true, false, false, false, false, false, false, false, false, false, false, false, false, false, false, false, false, false, false, false, false, false, false, false, false, false] rfl rfl (by kernel_rfl) (fun _ _ _ h => h) (Or.inl ⟨by rfl, ?_⟩) ?_ ?_
          rotate_left
          · intro w'
            go_simp
            with_reducible rfl
          rotate_left
          · simp only [Act.put, List.setIfInBounds_toArray, List.set_cons_zero, List.set_cons_succ, i64_w, i32_w]
            rfl
          refine take_ (i := 19) (N := (some 97)) (v := ?_) (a' := ?_) #[true, true, true, true, true, true, true, true, true, true, true, true, true, true, true, true, true, true, true, true, false, false, false, false, false, false, false, false, false, false, false, false, false, false, false, false, false, false, false, false, false, false, false, false] rfl rfl (by kernel_rfl) (fun _ _ _ h => h) (Or.inl ⟨by rfl, ?_⟩) hHeld ?_ ?_
          rotate_left
          · rintro w' ⟨s0, s1, s2, s3, s4, s5, s6, s7⟩
            go_simp
            with_reducible rfl
          rotate_left
          · simp only [Act.put, List.setIfInBounds_toArray, List.set_cons_zero, List.set_cons_succ, i64_w, i32_w]
            rfl
          refine pure_ (i := 20) (N := (some 98)) (v := .bool false) (a' := ?_) #[true, true, true, true, true, true, true, true, true, true, true, true, true, true, true, true, true, true, true, true, true, false, false, false, false, false, false, false, false, false, false, false, false, false, false, false, false, false, false, false, false, false, false, false] rfl rfl (by kernel_rfl) (fun _ _ _ h => h) (Or.inl ⟨by rfl, ?_⟩) ?_ ?_
          · intro w'
            first | (go_simp; with_reducible rfl) | (go_simp; done) | (simp [go_sem]; done)
          rotate_left
          · simp only [Act.put, List.setIfInBounds_toArray, List.set_cons_zero, List.set_cons_succ, i64_w, i32_w]
            rfl
          refine pure_ (i := 21) (N := (some 99)) (v := .bool false) (a' := ?_) #[true, true, true, true, true, true, true, true, true, true, true, true, true, true, true, true, true, true, true, true, true, true, false, false, false, false, false, false, false, false, false, false, false, false, false, false, false, false, false, false, false, false, false, false] rfl rfl (by kernel_rfl) (fun _ _ _ h => h) (Or.inl ⟨by rfl, ?_⟩) ?_ ?_
          · intro w'
            first | (go_simp; with_reducible rfl) | (go_simp; done) | (simp [go_sem]; done)
          rotate_left
          · simp only [Act.put, List.setIfInBounds_toArray, List.set_cons_zero, List.set_cons_succ, i64_w, i32_w]
            rfl
          refine pure_ (i := 22) (N := (some 100)) (v := .bool false) (a' := ?_) #[true, true, true, true, true, true, true, true, true, true, true, true, true, true, true, true, true, true, true, true, true, true, true, false, false, false, false, false, false, false, false, false, false, false, false, false, false, false, false, false, false, false, false, false] rfl rfl (by kernel_rfl) (fun _ _ _ h => h) (Or.inl ⟨by rfl, ?_⟩) ?_ ?_
          · intro w'
            first | (go_simp; with_reducible rfl) | (go_simp; done) | (simp [go_sem]; done)
          rotate_left
          · simp only [Act.put, List.setIfInBounds_toArray, List.set_cons_zero, List.set_cons_succ, i64_w, i32_w]
            rfl
          refine pure_ (i := 23) (N := (some 101)) (v := ?_) (a' := ?_) #[true, true, true, true, true, true, true, true, true, true, true, true, true, true, true, true, true, true, true, true, true, true, true, true, false, false, false, false, false, false, false, false, false, false, false, false, false, false, false, false, false, false, false, false] rfl rfl (by kernel_rfl) (fun _ _ _ h => h) (Or.inl ⟨by rfl, ?_⟩) ?_ ?_
          rotate_left
          · intro w'
            go_simp
            with_reducible rfl
          rotate_left
          · simp only [Act.put, List.setIfInBounds_toArray, List.set_cons_zero, List.set_cons_succ, i64_w, i32_w]
            rfl
          refine pure_ (i := 24) (N := (some 102)) (v := ?_) (a' := ?_) #[true, true, true, true, true, true, true, true, true, true, true, true, true, true, true, true, true, true, true, true, true, true, true, true, true, false, false, false, false, false, false, false, false, false, false, false, false, false, false, false, false, false, false, false] rfl rfl (by kernel_rfl) (fun _ _ _ h => h) (Or.inl ⟨by rfl, ?_⟩) ?_ ?_
          rotate_left
          · intro w'
            go_simp
            with_reducible rfl
          rotate_left
          · simp only [Act.put, List.setIfInBounds_toArray, List.set_cons_zero, List.set_cons_succ, i64_w, i32_w]
            rfl
          refine take_ (i := 26) (N := (some 104)) (v := ?_) (a' := ?_) #[true, true, true, true, true, true, true, true, true, true, true, true, true, true, true, true, true, true, true, true, true, true, true, true, true, false, true, false, false, false, false, false, false, false, false, false, false, false, false, false, false, false, false, false] rfl rfl (by kernel_rfl) (fun _ _ _ h => h) (Or.inl ⟨by rfl, ?_⟩) hHeld ?_ ?_
          rotate_left
          · rintro w' ⟨s0, s1, s2, s3, s4, s5, s6, s7⟩
            go_simp
            with_reducible rfl
          rotate_left
          · simp only [Act.put, List.setIfInBounds_toArray, List.set_cons_zero, List.set_cons_succ, i64_w, i32_w]
            rfl
          refine pure_ (i := 27) (N := (some 105)) (v := ?_) (a' := ?_) #[true, true, true, true, true, true, true, true, true, true, true, true, true, true, true, true, true, true, true, true, true, true, true, true, true, false, true, true, false, false, false, false, false, false, false, false, false, false, false, false, false, false, false, false] rfl rfl (by kernel_rfl) (fun _ _ _ h => h) (Or.inl ⟨by rfl, ?_⟩) ?_ ?_
          rotate_left
          · intro w'
            go_simp
            with_reducible rfl
          rotate_left
          · simp only [Act.put, List.setIfInBounds_toArray, List.set_cons_zero, List.set_cons_succ, i64_w, i32_w]
            rfl
          refine one_ (i := 25) (N := (some 103)) #[true, true, true, true, true, true, true, true, true, true, true, true, true, true, true, true, true, true, true, true, true, true, true, true, true, true, true, true, false, false, false, false, false, false, false, false, false, false, false, false, false, false, false, false] rfl rfl (by kernel_rfl) (by decide) (fun K hK => ?_)
          refine goes_ Tryd.func13 (by kernel_rfl) rfl #[.pointer (some ⟨g, 0, none⟩), .int .i64 c] (by rfl) rfl rfl (by (try simp only [List.map_toArray, List.map_cons, List.map_nil]); first | done | rfl) ?_
          refine (near_is w Wd g _ _ _ _ _ c nr HI.out HNR.out).mono ?_
          rintro e We ⟨rfl, hb⟩
          replace HX6 := Aside0.mk (blk_below HX6.out hb)
          replace HX16 := Aside0.mk (blk_below HX16.out hb)
          replace HI := Aside0.mk (HI.out.below hb)
          replace HB := Aside0.mk (below_step HB.out hb)
          clear hb hHeld
          refine ⟨_, rfl, ?_⟩
          refine hK.out _ _ ⟨(blk_cell HX16.out 0).trans rfl, (blk_cell HX16.out 1).trans rfl, (blk_cell HX16.out 2).trans rfl, (blk_cell HX16.out 3).trans rfl, (blk_cell HX6.out 0).trans rfl, (blk_cell HX6.out 1).trans rfl, (blk_cell HX6.out 2).trans rfl, (blk_cell HX6.out 3).trans rfl⟩ (fun hHeld => ?_)
          clear hK K
          refine norm_ (a' := ?_) ?_ ?_
          rotate_left
          · show Act.put _ (some 103) _ = _
            simp only [Act.put, List.setIfInBounds_toArray, List.set_cons_zero, List.set_cons_succ, i64_w, i32_w]
            rfl
          refine one_ (i := 28) (N := (some 106)) #[true, true, true, true, true, true, true, true, true, true, true, true, true, true, true, true, true, true, true, true, true, true, true, true, true, true, true, true, true, false, false, false, false, false, false, false, false, false, false, false, false, false, false, false] rfl rfl (by kernel_rfl) (by decide) (fun K hK => ?_)
          refine goes_ Tryd.func14 (by kernel_rfl) rfl #[.agg #[.int .i64 (mx p0 0), .int .i64 p1, .int .i64 p2, .int .i64 Y], .int .i64 c] (by rfl) rfl rfl (by (try simp only [List.map_toArray, List.map_cons, List.map_nil]); first | done | rfl) ?_
          refine (aneroidref18_Ground_Near.calls (mx p0 0) p1 p2 Y c nr We HRN.out).mono ?_
          rintro e Wf ⟨rfl, hb⟩
          replace HX6 := Aside0.mk (blk_below HX6.out hb)
          replace HX16 := Aside0.mk (blk_below HX16.out hb)
          replace HI := Aside0.mk (HI.out.below hb)
          replace HB := Aside0.mk (below_step HB.out hb)
          clear hb hHeld
          refine ⟨_, rfl, ?_⟩
          refine hK.out _ _ ⟨(blk_cell HX16.out 0).trans rfl, (blk_cell HX16.out 1).trans rfl, (blk_cell HX16.out 2).trans rfl, (blk_cell HX16.out 3).trans rfl, (blk_cell HX6.out 0).trans rfl, (blk_cell HX6.out 1).trans rfl, (blk_cell HX6.out 2).trans rfl, (blk_cell HX6.out 3).trans rfl⟩ (fun hHeld => ?_)
          clear hK K
          refine norm_ (a' := ?_) ?_ ?_
          rotate_left
          · show Act.put _ (some 106) _ = _
            simp only [Act.put, List.setIfInBounds_toArray, List.set_cons_zero, List.set_cons_succ, i64_w, i32_w]
            rfl
          refine pure_ (i := 29) (N := (some 107)) (v := .bool false) (a' := ?_) #[true, true, true, true, true, true, true, true, true, true, true, true, true, true, true, true, true, true, true, true, true, true, true, true, true, true, true, true, true, true, false, false, false, false, false, false, false, false, false, false, false, false, false, false] rfl rfl (by kernel_rfl) (fun _ _ _ h => h) (Or.inl ⟨by rfl, ?_⟩) ?_ ?_
          · intro w'
            first | (go_simp; with_reducible rfl) | (go_simp; done) | (simp [go_sem]; done)
          rotate_left
          · simp only [Act.put, List.setIfInBounds_toArray, List.set_cons_zero, List.set_cons_succ, i64_w, i32_w]
            rfl
          refine pure_ (i := 30) (N := (some 108)) (v := .bool false) (a' := ?_) #[true, true, true, true, true, true, true, true, true, true, true, true, true, true, true, true, true, true, true, true, true, true, true, true, true, true, true, true, true, true, true, false, false, false, false, false, false, false, false, false, false, false, false, false] rfl rfl (by kernel_rfl) (fun _ _ _ h => h) (Or.inl ⟨by rfl, ?_⟩) ?_ ?_
          · intro w'
            first | (go_simp; with_reducible rfl) | (go_simp; done) | (simp [go_sem]; done)
          rotate_left
          · simp only [Act.put, List.setIfInBounds_toArray, List.set_cons_zero, List.set_cons_succ, i64_w, i32_w]
            rfl
          refine pure_ (i := 31) (N := (some 109)) (v := .bool false) (a' := ?_) #[true, true, true, true, true, true, true, true, true, true, true, true, true, true, true, true, true, true, true, true, true, true, true, true, true, true, true, true, true, true, true, true, false, false, false, false, false, false, false, false, false, false, false, false] rfl rfl (by kernel_rfl) (fun _ _ _ h => h) (Or.inl ⟨by rfl, ?_⟩) ?_ ?_
          · intro w'
            first | (go_simp; with_reducible rfl) | (go_simp; done) | (simp [go_sem]; done)
          rotate_left
          · simp only [Act.put, List.setIfInBounds_toArray, List.set_cons_zero, List.set_cons_succ, i64_w, i32_w]
            rfl
          refine pure_ (i := 32) (N := (some 110)) (v := ?_) (a' := ?_) #[true, true, true, true, true, true, true, true, true, true, true, true, true, true, true, true, true, true, true, true, true, true, true, true, true, true, true, true, true, true, true, true, true, false, false, false, false, false, false, false, false, false, false, false] rfl rfl (by kernel_rfl) (fun _ _ _ h => h) (Or.inl ⟨by rfl, ?_⟩) ?_ ?_
          rotate_left
          · intro w'
            go_simp
            with_reducible rfl
          rotate_left
          · simp only [Act.put, List.setIfInBounds_toArray, List.set_cons_zero, List.set_cons_succ, i64_w, i32_w]
            rfl
          refine pure_ (i := 33) (N := (some 111)) (v := ?_) (a' := ?_) #[true, true, true, true, true, true, true, true, true, true, true, true, true, true, true, true, true, true, true, true, true, true, true, true, true, true, true, true, true, true, true, true, true, true, false, false, false, false, false, false, false, false, false, false] rfl rfl (by kernel_rfl) (fun _ _ _ h => h) (Or.inl ⟨by rfl, ?_⟩) ?_ ?_
          rotate_left
          · intro w'
            go_simp
            with_reducible rfl
          rotate_left
          · simp only [Act.put, List.setIfInBounds_toArray, List.set_cons_zero, List.set_cons_succ, i64_w, i32_w]
            rfl
          refine take_ (i := 34) (N := (some 112)) (v := ?_) (a' := ?_) #[true, true, true, true, true, true, true, true, true, true, true, true, true, true, true, true, true, true, true, true, true, true, true, true, true, true, true, true, true, true, true, true, true, true, true, false, false, false, false, false, false, false, false, false] rfl rfl (by kernel_rfl) (fun _ _ _ h => h) (Or.inl ⟨by rfl, ?_⟩) hHeld ?_ ?_
          rotate_left
          · rintro w' ⟨s0, s1, s2, s3, s4, s5, s6, s7⟩
            go_simp
            with_reducible rfl
          rotate_left
          · simp only [Act.put, List.setIfInBounds_toArray, List.set_cons_zero, List.set_cons_succ, i64_w, i32_w]
            rfl
          refine pure_ (i := 35) (N := (some 113)) (v := .bool false) (a' := ?_) #[true, true, true, true, true, true, true, true, true, true, true, true, true, true, true, true, true, true, true, true, true, true, true, true, true, true, true, true, true, true, true, true, true, true, true, true, false, false, false, false, false, false, false, false] rfl rfl (by kernel_rfl) (fun _ _ _ h => h) (Or.inl ⟨by rfl, ?_⟩) ?_ ?_
          · intro w'
            first | (go_simp; with_reducible rfl) | (go_simp; done) | (simp [go_sem]; done)
          rotate_left
          · simp only [Act.put, List.setIfInBounds_toArray, List.set_cons_zero, List.set_cons_succ, i64_w, i32_w]
            rfl
          refine pure_ (i := 36) (N := (some 114)) (v := .bool false) (a' := ?_) #[true, true, true, true, true, true, true, true, true, true, true, true, true, true, true, true, true, true, true, true, true, true, true, true, true, true, true, true, true, true, true, true, true, true, true, true, true, false, false, false, false, false, false, false] rfl rfl (by kernel_rfl) (fun _ _ _ h => h) (Or.inl ⟨by rfl, ?_⟩) ?_ ?_
          · intro w'
            first | (go_simp; with_reducible rfl) | (go_simp; done) | (simp [go_sem]; done)
          rotate_left
          · simp only [Act.put, List.setIfInBounds_toArray, List.set_cons_zero, List.set_cons_succ, i64_w, i32_w]
            rfl
          refine pure_ (i := 37) (N := (some 115)) (v := .bool false) (a' := ?_) #[true, true, true, true, true, true, true, true, true, true, true, true, true, true, true, true, true, true, true, true, true, true, true, true, true, true, true, true, true, true, true, true, true, true, true, true, true, true, false, false, false, false, false, false] rfl rfl (by kernel_rfl) (fun _ _ _ h => h) (Or.inl ⟨by rfl, ?_⟩) ?_ ?_
          · intro w'
            first | (go_simp; with_reducible rfl) | (go_simp; done) | (simp [go_sem]; done)
          rotate_left
          · simp only [Act.put, List.setIfInBounds_toArray, List.set_cons_zero, List.set_cons_succ, i64_w, i32_w]
            rfl
          refine pure_ (i := 38) (N := (some 116)) (v := .bool k) (a' := ?_) #[true, true, true, true, true, true, true, true, true, true, true, true, true, true, true, true, true, true, true, true, true, true, true, true, true, true, true, true, true, true, true, true, true, true, true, true, true, true, true, false, false, false, false, false] rfl rfl (by kernel_rfl) (fun _ _ _ h => h) (Or.inl ⟨by rfl, ?_⟩) ?_ ?_
          · intro w'
            first | (go_simp; with_reducible rfl) | (go_simp; done) | (simp [go_sem]; done)
          rotate_left
          · simp only [Act.put, List.setIfInBounds_toArray, List.set_cons_zero, List.set_cons_succ, i64_w, i32_w]
            rfl
          refine pure_ (i := 39) (N := (some 117)) (v := ?_) (a' := ?_) #[true, true, true, true, true, true, true, true, true, true, true, true, true, true, true, true, true, true, true, true, true, true, true, true, true, true, true, true, true, true, true, true, true, true, true, true, true, true, true, true, false, false, false, false] rfl rfl (by kernel_rfl) (fun _ _ _ h => h) (Or.inl ⟨by rfl, ?_⟩) ?_ ?_
          rotate_left
          · intro w'
            go_simp
            with_reducible rfl
          rotate_left
          · simp only [Act.put, List.setIfInBounds_toArray, List.set_cons_zero, List.set_cons_succ, i64_w, i32_w]
            rfl
          refine take_ (i := 40) (N := (some 118)) (v := ?_) (a' := ?_) #[true, true, true, true, true, true, true, true, true, true, true, true, true, true, true, true, true, true, true, true, true, true, true, true, true, true, true, true, true, true, true, true, true, true, true, true, true, true, true, true, true, false, false, false] rfl rfl (by kernel_rfl) (fun _ _ _ h => h) (Or.inl ⟨by rfl, ?_⟩) hHeld ?_ ?_
          rotate_left
          · rintro w' ⟨s0, s1, s2, s3, s4, s5, s6, s7⟩
            go_simp
            with_reducible rfl
          rotate_left
          · simp only [Act.put, List.setIfInBounds_toArray, List.set_cons_zero, List.set_cons_succ, i64_w, i32_w]
            rfl
          refine pure_ (i := 41) (N := (some 119)) (v := .bool k) (a' := ?_) #[true, true, true, true, true, true, true, true, true, true, true, true, true, true, true, true, true, true, true, true, true, true, true, true, true, true, true, true, true, true, true, true, true, true, true, true, true, true, true, true, true, true, false, false] rfl rfl (by kernel_rfl) (fun _ _ _ h => h) (Or.inl ⟨by rfl, ?_⟩) ?_ ?_
          · intro w'
            first | (go_simp; with_reducible rfl) | (go_simp; done) | (simp [go_sem]; done)
          rotate_left
          · simp only [Act.put, List.setIfInBounds_toArray, List.set_cons_zero, List.set_cons_succ, i64_w, i32_w]
            rfl
          refine pure_ (i := 42) (N := (some 120)) (v := .bool false) (a' := ?_) #[true, true, true, true, true, true, true, true, true, true, true, true, true, true, true, true, true, true, true, true, true, true, true, true, true, true, true, true, true, true, true, true, true, true, true, true, true, true, true, true, true, true, true, false] rfl rfl (by kernel_rfl) (fun _ _ _ h => h) (Or.inl ⟨by rfl, ?_⟩) ?_ ?_
          · intro w'
            first | (go_simp; with_reducible rfl) | (go_simp; done) | (simp [go_sem]; done)
          rotate_left
          · simp only [Act.put, List.setIfInBounds_toArray, List.set_cons_zero, List.set_cons_succ, i64_w, i32_w]
            rfl
          refine pure_ (i := 43) (N := (some 121)) (v := .bool false) (a' := ?_) #[true, true, true, true, true, true, true, true, true, true, true, true, true, true, true, true, true, true, true, true, true, true, true, true, true, true, true, true, true, true, true, true, true, true, true, true, true, true, true, true, true, true, true, true] rfl rfl (by kernel_rfl) (fun _ _ _ h => h) (Or.inl ⟨by rfl, ?_⟩) ?_ ?_
          · intro w'
            first | (go_simp; with_reducible rfl) | (go_simp; done) | (simp [go_sem]; done)
          rotate_left
          · simp only [Act.put, List.setIfInBounds_toArray, List.set_cons_zero, List.set_cons_succ, i64_w, i32_w]
            rfl
          refine done_ (by kernel_rfl) ?_
          clear hHeld HNR HRN HX16 H0
          go_wp2_with fail
          go_roundw
          case rel => exact ⟨i + 1, Y, hlt, rfl, HXG, ⟨by rw [HK.out.1]; exact HI.out⟩, HX6, HB⟩
          case measure => exact meas_up hlt
        · clear hx
          obtain ⟨z, ns, nr, ee, HLV, HRV, HNR, HRN⟩ := levels (mx p0 0) p1 p2 X c (mx_pos p0) HXG.out
          obtain ⟨k, HK⟩ : ∃ k, Aside0 (decide (X ≠ 0) = k ∧ decide (0 < X) = k) := ⟨_, ⟨rfl, pos_ne HXG.out⟩⟩
          have HI0 := HI
          rw [HK.out.1] at HLV HNR HI
          have H0 := HK.out.2
          refine (level_is w wr g _ _ _ _ _ c _ HI.out (HT.out.below HB.out) HLV.out).mono ?_
          rintro e u1 ⟨rfl, hb⟩
          replace HX6 := Aside0.mk (blk_below HX6.out hb)
          replace HI := Aside0.mk (HI.out.below hb)
          replace HB := Aside0.mk (below_step HB.out hb)
          clear hb HLV HI0
          have x0 : u1.cell? ⟨b6, 0, none⟩ = some (.int .i64 (mx p0 0)) := (blk_cell HX6.out 0).trans rfl
          have x1 : u1.cell? ⟨b6, 1, none⟩ = some (.int .i64 p1) := (blk_cell HX6.out 1).trans rfl
          have x2 : u1.cell? ⟨b6, 2, none⟩ = some (.int .i64 p2) := (blk_cell HX6.out 2).trans rfl
          have x3 : u1.cell? ⟨b6, 3, none⟩ = some (.int .i64 X) := (blk_cell HX6.out 3).trans rfl
          go_wp2_with fail
          clear x0 x1 x2 x3
          refine (rlevel_is u1 (mx p0 0) p1 p2 X c _ HRV.out).mono ?_
          rintro e u2 ⟨rfl, hb⟩
          replace HX6 := Aside0.mk (blk_below HX6.out hb)
          replace HI := Aside0.mk (HI.out.below hb)
          replace HB := Aside0.mk (below_step HB.out hb)
          clear hb HRV
          go_upto_region 17 with fail
          have HX16 := Aside0.mk (blk_new u2 (.cells #[.int .i64 z, .int .i64 ns, .bool nr, .int .i64 ee] 37))
          replace HX6 := Aside0.mk (blk_alloc HX6.out (.cells #[.int .i64 z, .int .i64 ns, .bool nr, .int .i64 ee] 37))
          replace HI := Aside0.mk (HI.out.alloc (.cells #[.int .i64 z, .int .i64 ns, .bool nr, .int .i64 ee] 37))
          replace HB := Aside0.mk (below_alloc HB.out (.cells #[.int .i64 z, .int .i64 ns, .bool nr, .int .i64 ee] 37))
          generalize u2.alloc (.cells #[.int .i64 z, .int .i64 ns, .bool nr, .int .i64 ee] 37) = u3 at HX6 HX16 HI HB ⊢
          generalize u2.heap.size = b16 at HX16 ⊢
          go_wp2_with fail
          refine (ground_Ground_Known.calls g (mx p0 0) p1 p2 X k X k (mx p0 0) p1 p2 X k w u3 HI.out HB.out rfl).mono ?_
          rintro e u4 ⟨rfl, hI, hB, hk⟩
          have n6 : b6 ≠ g := Ne.symm (HI.out.ne_blk HX6.out (by decide))
          have n16 : b16 ≠ g := Ne.symm (HI.out.ne_blk HX16.out (by decide))
          replace HX6 := Aside0.mk ((hk.2 b6 (blk_lt HX6.out) n6 (by simp)).trans HX6.out)
          replace HX16 := Aside0.mk ((hk.2 b16 (blk_lt HX16.out) n16 (by simp)).trans HX16.out)
          replace HI := Aside0.mk hI
          replace HB := Aside0.mk hB
          clear hI hB hk n6 n16
          go_upto_region 18 with fail
          refine start_ (n := 44) (S := fun w' => w'.cell? ⟨b16, 0, none⟩ = some (.int .i64 z) ∧ w'.cell? ⟨b16, 1, none⟩ = some (.int .i64 ns) ∧ w'.cell? ⟨b16, 2, none⟩ = some (.bool nr) ∧ w'.cell? ⟨b16, 3, none⟩ = some (.int .i64 ee) ∧ w'.cell? ⟨b6, 0, none⟩ = some (.int .i64 (mx p0 0)) ∧ w'.cell? ⟨b6, 1, none⟩ = some (.int .i64 p1) ∧ w'.cell? ⟨b6, 2, none⟩ = some (.int .i64 p2) ∧ w'.cell? ⟨b6, 3, none⟩ = some (.int .i64 X)) (ds := []) #[false, false, false, false, false, false, false, false, false, false, false, false, false, false, false, false, false, false, false, false, false, false, false, false, false, false, false, false, false, false, false, false, false, false, false, false, false, false, false, false, false, false, false, false] (by kernel_rfl) rfl rfl ⟨(blk_cell HX16.out 0).trans rfl, (blk_cell HX16.out 1).trans rfl, (blk_cell HX16.out 2).trans rfl, (blk_cell HX16.out 3).trans rfl, (blk_cell HX6.out 0).trans rfl, (blk_cell HX6.out 1).trans rfl, (blk_cell HX6.out 2).trans rfl, (blk_cell HX6.out 3).trans rfl⟩ (fun hHeld => ?_)
          replace HX6 := Aside0.mk (blk_drew HX6.out)
          replace HX16 := Aside0.mk (blk_drew HX16.out)
          replace HI := Aside0.mk HI.out.drew
          replace HB := Aside0.mk (below_drew HB.out)
          generalize u4.drew = Wd at HX6 HX16 HI HB hHeld ⊢
          refine pure_ (i := 0) (N := (some 78)) (v := ?_) (a' := ?_) #[true, false, false, false, false, false, false, false, false, false, false, false, false, false, false, false, false, false, false, false, false, false, false, false, false, false, false, false, false, false, false, false, false, false, false, false, false, false, false, false, false, false, false, false] rfl rfl (by kernel_rfl) (fun _ _ _ h => h) (Or.inl ⟨by rfl, ?_⟩) ?_ ?_
          rotate_left
          · intro w'
            go_simp
            with_reducible rfl
          rotate_left
          · simp only [Act.put, List.setIfInBounds_toArray, List.set_cons_zero, List.set_cons_succ, i64_w, i32_w]
            rfl
          refine pure_ (i := 1) (N := (some 79)) (v := ?_) (a' := ?_) #[true, true, false, false, false, false, false, false, false, false, false, false, false, false, false, false, false, false, false, false, false, false, false, false, false, false, false, false, false, false, false, false, false, false, false, false, false, false, false, false, false, false, false, false] rfl rfl (by kernel_rfl) (fun _ _ _ h => h) (Or.inl ⟨by rfl, ?_⟩) ?_ ?_
          rotate_left
          · intro w'
            go_simp
            with_reducible rfl
          rotate_left
          · simp only [Act.put, List.setIfInBounds_toArray, List.set_cons_zero, List.set_cons_succ, i64_w, i32_w]
            rfl
          refine take_ (i := 2) (N := (some 80)) (v := ?_) (a' := ?_) #[true, true, true, false, false, false, false, false, false, false, false, false, false, false, false, false, false, false, false, false, false, false, false, false, false, false, false, false, false, false, false, false, false, false, false, false, false, false, false, false, false, false, false, false] rfl rfl (by kernel_rfl) (fun _ _ _ h => h) (Or.inl ⟨by rfl, ?_⟩) hHeld ?_ ?_
          rotate_left
          · rintro w' ⟨s0, s1, s2, s3, s4, s5, s6, s7⟩
            go_simp
            with_reducible rfl
          rotate_left
          · simp only [Act.put, List.setIfInBounds_toArray, List.set_cons_zero, List.set_cons_succ, i64_w, i32_w]
            rfl
          refine pure_ (i := 3) (N := (some 81)) (v := .bool false) (a' := ?_) #[true, true, true, true, false, false, false, false, false, false, false, false, false, false, false, false, false, false, false, false, false, false, false, false, false, false, false, false, false, false, false, false, false, false, false, false, false, false, false, false, false, false, false, false] rfl rfl (by kernel_rfl) (fun _ _ _ h => h) (Or.inl ⟨by rfl, ?_⟩) ?_ ?_
          · intro w'
            first | (go_simp; with_reducible rfl) | (go_simp; done) | (simp [go_sem]; done)
          rotate_left
          · simp only [Act.put, List.setIfInBounds_toArray, List.set_cons_zero, List.set_cons_succ, i64_w, i32_w]
            rfl
          refine pure_ (i := 4) (N := (some 82)) (v := .bool false) (a' := ?_) #[true, true, true, true, true, false, false, false, false, false, false, false, false, false, false, false, false, false, false, false, false, false, false, false, false, false, false, false, false, false, false, false, false, false, false, false, false, false, false, false, false, false, false, false] rfl rfl (by kernel_rfl) (fun _ _ _ h => h) (Or.inl ⟨by rfl, ?_⟩) ?_ ?_
          · intro w'
            first | (go_simp; with_reducible rfl) | (go_simp; done) | (simp [go_sem]; done)
          rotate_left
          · simp only [Act.put, List.setIfInBounds_toArray, List.set_cons_zero, List.set_cons_succ, i64_w, i32_w]
            rfl
          refine pure_ (i := 5) (N := (some 83)) (v := ?_) (a' := ?_) #[true, true, true, true, true, true, false, false, false, false, false, false, false, false, false, false, false, false, false, false, false, false, false, false, false, false, false, false, false, false, false, false, false, false, false, false, false, false, false, false, false, false, false, false] rfl rfl (by kernel_rfl) (fun _ _ _ h => h) (Or.inl ⟨by rfl, ?_⟩) ?_ ?_
          rotate_left
          · intro w'
            go_simp
            with_reducible rfl
          rotate_left
          · simp only [Act.put, List.setIfInBounds_toArray, List.set_cons_zero, List.set_cons_succ, i64_w, i32_w]
            rfl
          refine pure_ (i := 6) (N := (some 84)) (v := ?_) (a' := ?_) #[true, true, true, true, true, true, true, false, false, false, false, false, false, false, false, false, false, false, false, false, false, false, false, false, false, false, false, false, false, false, false, false, false, false, false, false, false, false, false, false, false, false, false, false] rfl rfl (by kernel_rfl) (fun _ _ _ h => h) (Or.inl ⟨by rfl, ?_⟩) ?_ ?_
          rotate_left
          · intro w'
            go_simp
            with_reducible rfl
          rotate_left
          · simp only [Act.put, List.setIfInBounds_toArray, List.set_cons_zero, List.set_cons_succ, i64_w, i32_w]
            rfl
          refine take_ (i := 7) (N := (some 85)) (v := ?_) (a' := ?_) #[true, true, true, true, true, true, true, true, false, false, false, false, false, false, false, false, false, false, false, false, false, false, false, false, false, false, false, false, false, false, false, false, false, false, false, false, false, false, false, false, false, false, false, false] rfl rfl (by kernel_rfl) (fun _ _ _ h => h) (Or.inl ⟨by rfl, ?_⟩) hHeld ?_ ?_
          rotate_left
          · rintro w' ⟨s0, s1, s2, s3, s4, s5, s6, s7⟩
            go_simp
            with_reducible rfl
          rotate_left
          · simp only [Act.put, List.setIfInBounds_toArray, List.set_cons_zero, List.set_cons_succ, i64_w, i32_w]
            rfl
          refine pure_ (i := 8) (N := (some 86)) (v := .bool false) (a' := ?_) #[true, true, true, true, true, true, true, true, true, false, false, false, false, false, false, false, false, false, false, false, false, false, false, false, false, false, false, false, false, false, false, false, false, false, false, false, false, false, false, false, false, false, false, false] rfl rfl (by kernel_rfl) (fun _ _ _ h => h) (Or.inl ⟨by rfl, ?_⟩) ?_ ?_
          · intro w'
            first | (go_simp; with_reducible rfl) | (go_simp; done) | (simp [go_sem]; done)
          rotate_left
          · simp only [Act.put, List.setIfInBounds_toArray, List.set_cons_zero, List.set_cons_succ, i64_w, i32_w]
            rfl
          refine pure_ (i := 9) (N := (some 87)) (v := .bool false) (a' := ?_) #[true, true, true, true, true, true, true, true, true, true, false, false, false, false, false, false, false, false, false, false, false, false, false, false, false, false, false, false, false, false, false, false, false, false, false, false, false, false, false, false, false, false, false, false] rfl rfl (by kernel_rfl) (fun _ _ _ h => h) (Or.inl ⟨by rfl, ?_⟩) ?_ ?_
          · intro w'
            first | (go_simp; with_reducible rfl) | (go_simp; done) | (simp [go_sem]; done)
          rotate_left
          · simp only [Act.put, List.setIfInBounds_toArray, List.set_cons_zero, List.set_cons_succ, i64_w, i32_w]
            rfl
          refine pure_ (i := 10) (N := (some 88)) (v := .bool false) (a' := ?_) #[true, true, true, true, true, true, true, true, true, true, true, false, false, false, false, false, false, false, false, false, false, false, false, false, false, false, false, false, false, false, false, false, false, false, false, false, false, false, false, false, false, false, false, false] rfl rfl (by kernel_rfl) (fun _ _ _ h => h) (Or.inl ⟨by rfl, ?_⟩) ?_ ?_
          · intro w'
            first | (go_simp; with_reducible rfl) | (go_simp; done) | (simp [go_sem]; done)
          rotate_left
          · simp only [Act.put, List.setIfInBounds_toArray, List.set_cons_zero, List.set_cons_succ, i64_w, i32_w]
            rfl
          refine pure_ (i := 11) (N := (some 89)) (v := ?_) (a' := ?_) #[true, true, true, true, true, true, true, true, true, true, true, true, false, false, false, false, false, false, false, false, false, false, false, false, false, false, false, false, false, false, false, false, false, false, false, false, false, false, false, false, false, false, false, false] rfl rfl (by kernel_rfl) (fun _ _ _ h => h) (Or.inl ⟨by rfl, ?_⟩) ?_ ?_
          rotate_left
          · intro w'
            go_simp
            with_reducible rfl
          rotate_left
          · simp only [Act.put, List.setIfInBounds_toArray, List.set_cons_zero, List.set_cons_succ, i64_w, i32_w]
            rfl
          refine pure_ (i := 12) (N := (some 90)) (v := ?_) (a' := ?_) #[true, true, true, true, true, true, true, true, true, true, true, true, true, false, false, false, false, false, false, false, false, false, false, false, false, false, false, false, false, false, false, false, false, false, false, false, false, false, false, false, false, false, false, false] rfl rfl (by kernel_rfl) (fun _ _ _ h => h) (Or.inl ⟨by rfl, ?_⟩) ?_ ?_
          rotate_left
          · intro w'
            go_simp
            with_reducible rfl
          rotate_left
          · simp only [Act.put, List.setIfInBounds_toArray, List.set_cons_zero, List.set_cons_succ, i64_w, i32_w]
            rfl
          refine take_ (i := 13) (N := (some 91)) (v := ?_) (a' := ?_) #[true, true, true, true, true, true, true, true, true, true, true, true, true, true, false, false, false, false, false, false, false, false, false, false, false, false, false, false, false, false, false, false, false, false, false, false, false, false, false, false, false, false, false, false] rfl rfl (by kernel_rfl) (fun _ _ _ h => h) (Or.inl ⟨by rfl, ?_⟩) hHeld ?_ ?_
          rotate_left
          · rintro w' ⟨s0, s1, s2, s3, s4, s5, s6, s7⟩
            go_simp
            with_reducible rfl
          rotate_left
          · simp only [Act.put, List.setIfInBounds_toArray, List.set_cons_zero, List.set_cons_succ, i64_w, i32_w]
            rfl
          refine pure_ (i := 14) (N := (some 92)) (v := .bool false) (a' := ?_) #[true, true, true, true, true, true, true, true, true, true, true, true, true, true, true, false, false, false, false, false, false, false, false, false, false, false, false, false, false, false, false, false, false, false, false, false, false, false, false, false, false, false, false, false] rfl rfl (by kernel_rfl) (fun _ _ _ h => h) (Or.inl ⟨by rfl, ?_⟩) ?_ ?_
          · intro w'
            first | (go_simp; with_reducible rfl) | (go_simp; done) | (simp [go_sem]; done)
          rotate_left
          · simp only [Act.put, List.setIfInBounds_toArray, List.set_cons_zero, List.set_cons_succ, i64_w, i32_w]
            rfl
          refine pure_ (i := 15) (N := (some 93)) (v := .bool false) (a' := ?_) #[true, true, true, true, true, true, true, true, true, true, true, true, true, true, true, true, false, false, false, false, false, false, false, false, false, false, false, false, false, false, false, false, false, false, false, false, false, false, false, false, false, false, false, false] rfl rfl (by kernel_rfl) (fun _ _ _ h => h) (Or.inl ⟨by rfl, ?_⟩) ?_ ?_
          · intro w'
            first | (go_simp; with_reducible rfl) | (go_simp; done) | (simp [go_sem]; done)
          rotate_left
          · simp only [Act.put, List.setIfInBounds_toArray, List.set_cons_zero, List.set_cons_succ, i64_w, i32_w]
            rfl
          refine pure_ (i := 16) (N := (some 94)) (v := .bool false) (a' := ?_) #[true, true, true, true, true, true, true, true, true, true, true, true, true, true, true, true, true, false, false, false, false, false, false, false, false, false, false, false, false, false, false, false, false, false, false, false, false, false, false, false, false, false, false, false] rfl rfl (by kernel_rfl) (fun _ _ _ h => h) (Or.inl ⟨by rfl, ?_⟩) ?_ ?_
          · intro w'
            first | (go_simp; with_reducible rfl) | (go_simp; done) | (simp [go_sem]; done)
          rotate_left
          · simp only [Act.put, List.setIfInBounds_toArray, List.set_cons_zero, List.set_cons_succ, i64_w, i32_w]
            rfl
          refine pure_ (i := 17) (N := (some 95)) (v := ?_) (a' := ?_) #[true, true, true, true, true, true, true, true, true, true, true, true, true, true, true, true, true, true, false, false, false, false, false, false, false, false, false, false, false, false, false, false, false, false, false, false, false, false, false, false, false, false, false, false] rfl rfl (by kernel_rfl) (fun _ _ _ h => h) (Or.inl ⟨by rfl, ?_⟩) ?_ ?_
          rotate_left
          · intro w'
            go_simp
            with_reducible rfl
          rotate_left
          · simp only [Act.put, List.setIfInBounds_toArray, List.set_cons_zero, List.set_cons_succ, i64_w, i32_w]
            rfl
          refine pure_ (i := 18) (N := (some 96)) (v := ?_) (a' := ?_) #[true, true, true, true, true, true, true, true, true, true, true, true, true, true, true, true, true, true, true, false, false, false, false, false, false, false, false, false, false, false, false, false, false, false, false, false, false, false, false, false, false, false, false, false] rfl rfl (by kernel_rfl) (fun _ _ _ h => h) (Or.inl ⟨by rfl, ?_⟩) ?_ ?_
          rotate_left
          · intro w'
            go_simp
            with_reducible rfl
          rotate_left
          · simp only [Act.put, List.setIfInBounds_toArray, List.set_cons_zero, List.set_cons_succ, i64_w, i32_w]
            rfl
          refine take_ (i := 19) (N := (some 97)) (v := ?_) (a' := ?_) #[true, true, true, true, true, true, true, true, true, true, true, true, true, true, true, true, true, true, true, true, false, false, false, false, false, false, false, false, false, false, false, false, false, false, false, false, false, false, false, false, false, false, false, false] rfl rfl (by kernel_rfl) (fun _ _ _ h => h) (Or.inl ⟨by rfl, ?_⟩) hHeld ?_ ?_
          rotate_left
          · rintro w' ⟨s0, s1, s2, s3, s4, s5, s6, s7⟩
            go_simp
            with_reducible rfl
          rotate_left
          · simp only [Act.put, List.setIfInBounds_toArray, List.set_cons_zero, List.set_cons_succ, i64_w, i32_w]
            rfl
          refine pure_ (i := 20) (N := (some 98)) (v := .bool false) (a' := ?_) #[true, true, true, true, true, true, true, true, true, true, true, true, true, true, true, true, true, true, true, true, true, false, false, false, false, false, false, false, false, false, false, false, false, false, false, false, false, false, false, false, false, false, false, false] rfl rfl (by kernel_rfl) (fun _ _ _ h => h) (Or.inl ⟨by rfl, ?_⟩) ?_ ?_
          · intro w'
            first | (go_simp; with_reducible rfl) | (go_simp; done) | (simp [go_sem]; done)
          rotate_left
          · simp only [Act.put, List.setIfInBounds_toArray, List.set_cons_zero, List.set_cons_succ, i64_w, i32_w]
            rfl
          refine pure_ (i := 21) (N := (some 99)) (v := .bool false) (a' := ?_) #[true, true, true, true, true, true, true, true, true, true, true, true, true, true, true, true, true, true, true, true, true, true, false, false, false, false, false, false, false, false, false, false, false, false, false, false, false, false, false, false, false, false, false, false] rfl rfl (by kernel_rfl) (fun _ _ _ h => h) (Or.inl ⟨by rfl, ?_⟩) ?_ ?_
          · intro w'
            first | (go_simp; with_reducible rfl) | (go_simp; done) | (simp [go_sem]; done)
          rotate_left
          · simp only [Act.put, List.setIfInBounds_toArray, List.set_cons_zero, List.set_cons_succ, i64_w, i32_w]
            rfl
          refine pure_ (i := 22) (N := (some 100)) (v := .bool false) (a' := ?_) #[true, true, true, true, true, true, true, true, true, true, true, true, true, true, true, true, true, true, true, true, true, true, true, false, false, false, false, false, false, false, false, false, false, false, false, false, false, false, false, false, false, false, false, false] rfl rfl (by kernel_rfl) (fun _ _ _ h => h) (Or.inl ⟨by rfl, ?_⟩) ?_ ?_
          · intro w'
            first | (go_simp; with_reducible rfl) | (go_simp; done) | (simp [go_sem]; done)
          rotate_left
          · simp only [Act.put, List.setIfInBounds_toArray, List.set_cons_zero, List.set_cons_succ, i64_w, i32_w]
            rfl
          refine pure_ (i := 23) (N := (some 101)) (v := ?_) (a' := ?_) #[true, true, true, true, true, true, true, true, true, true, true, true, true, true, true, true, true, true, true, true, true, true, true, true, false, false, false, false, false, false, false, false, false, false, false, false, false, false, false, false, false, false, false, false] rfl rfl (by kernel_rfl) (fun _ _ _ h => h) (Or.inl ⟨by rfl, ?_⟩) ?_ ?_
          rotate_left
          · intro w'
            go_simp
            with_reducible rfl
          rotate_left
          · simp only [Act.put, List.setIfInBounds_toArray, List.set_cons_zero, List.set_cons_succ, i64_w, i32_w]
            rfl
          refine pure_ (i := 24) (N := (some 102)) (v := ?_) (a' := ?_) #[true, true, true, true, true, true, true, true, true, true, true, true, true, true, true, true, true, true, true, true, true, true, true, true, true, false, false, false, false, false, false, false, false, false, false, false, false, false, false, false, false, false, false, false] rfl rfl (by kernel_rfl) (fun _ _ _ h => h) (Or.inl ⟨by rfl, ?_⟩) ?_ ?_
          rotate_left
          · intro w'
            go_simp
            with_reducible rfl
          rotate_left
          · simp only [Act.put, List.setIfInBounds_toArray, List.set_cons_zero, List.set_cons_succ, i64_w, i32_w]
            rfl
          refine take_ (i := 26) (N := (some 104)) (v := ?_) (a' := ?_) #[true, true, true, true, true, true, true, true, true, true, true, true, true, true, true, true, true, true, true, true, true, true, true, true, true, false, true, false, false, false, false, false, false, false, false, false, false, false, false, false, false, false, false, false] rfl rfl (by kernel_rfl) (fun _ _ _ h => h) (Or.inl ⟨by rfl, ?_⟩) hHeld ?_ ?_
          rotate_left
          · rintro w' ⟨s0, s1, s2, s3, s4, s5, s6, s7⟩
            go_simp
            with_reducible rfl
          rotate_left
          · simp only [Act.put, List.setIfInBounds_toArray, List.set_cons_zero, List.set_cons_succ, i64_w, i32_w]
            rfl
          refine pure_ (i := 27) (N := (some 105)) (v := ?_) (a' := ?_) #[true, true, true, true, true, true, true, true, true, true, true, true, true, true, true, true, true, true, true, true, true, true, true, true, true, false, true, true, false, false, false, false, false, false, false, false, false, false, false, false, false, false, false, false] rfl rfl (by kernel_rfl) (fun _ _ _ h => h) (Or.inl ⟨by rfl, ?_⟩) ?_ ?_
          rotate_left
          · intro w'
            go_simp
            with_reducible rfl
          rotate_left
          · simp only [Act.put, List.setIfInBounds_toArray, List.set_cons_zero, List.set_cons_succ, i64_w, i32_w]
            rfl
          refine one_ (i := 25) (N := (some 103)) #[true, true, true, true, true, true, true, true, true, true, true, true, true, true, true, true, true, true, true, true, true, true, true, true, true, true, true, true, false, false, false, false, false, false, false, false, false, false, false, false, false, false, false, false] rfl rfl (by kernel_rfl) (by decide) (fun K hK => ?_)
          refine goes_ Tryd.func13 (by kernel_rfl) rfl #[.pointer (some ⟨g, 0, none⟩), .int .i64 c] (by rfl) rfl rfl (by (try simp only [List.map_toArray, List.map_cons, List.map_nil]); first | done | rfl) ?_
          refine (near_is w Wd g _ _ _ _ _ c nr HI.out HNR.out).mono ?_
          rintro e We ⟨rfl, hb⟩
          replace HX6 := Aside0.mk (blk_below HX6.out hb)
          replace HX16 := Aside0.mk (blk_below HX16.out hb)
          replace HI := Aside0.mk (HI.out.below hb)
          replace HB := Aside0.mk (below_step HB.out hb)
          clear hb hHeld
          refine ⟨_, rfl, ?_⟩
          refine hK.out _ _ ⟨(blk_cell HX16.out 0).trans rfl, (blk_cell HX16.out 1).trans rfl, (blk_cell HX16.out 2).trans rfl, (blk_cell HX16.out 3).trans rfl, (blk_cell HX6.out 0).trans rfl, (blk_cell HX6.out 1).trans rfl, (blk_cell HX6.out 2).trans rfl, (blk_cell HX6.out 3).trans rfl⟩ (fun hHeld => ?_)
          clear hK K
          refine norm_ (a' := ?_) ?_ ?_
          rotate_left
          · show Act.put _ (some 103) _ = _
            simp only [Act.put, List.setIfInBounds_toArray, List.set_cons_zero, List.set_cons_succ, i64_w, i32_w]
            rfl
          refine one_ (i := 28) (N := (some 106)) #[true, true, true, true, true, true, true, true, true, true, true, true, true, true, true, true, true, true, true, true, true, true, true, true, true, true, true, true, true, false, false, false, false, false, false, false, false, false, false, false, false, false, false, false] rfl rfl (by kernel_rfl) (by decide) (fun K hK => ?_)
          refine goes_ Tryd.func14 (by kernel_rfl) rfl #[.agg #[.int .i64 (mx p0 0), .int .i64 p1, .int .i64 p2, .int .i64 X], .int .i64 c] (by rfl) rfl rfl (by (try simp only [List.map_toArray, List.map_cons, List.map_nil]); first | done | rfl) ?_
          refine (aneroidref18_Ground_Near.calls (mx p0 0) p1 p2 X c nr We HRN.out).mono ?_
          rintro e Wf ⟨rfl, hb⟩
          replace HX6 := Aside0.mk (blk_below HX6.out hb)
          replace HX16 := Aside0.mk (blk_below HX16.out hb)
          replace HI := Aside0.mk (HI.out.below hb)
          replace HB := Aside0.mk (below_step HB.out hb)
          clear hb hHeld
          refine ⟨_, rfl, ?_⟩
          refine hK.out _ _ ⟨(blk_cell HX16.out 0).trans rfl, (blk_cell HX16.out 1).trans rfl, (blk_cell HX16.out 2).trans rfl, (blk_cell HX16.out 3).trans rfl, (blk_cell HX6.out 0).trans rfl, (blk_cell HX6.out 1).trans rfl, (blk_cell HX6.out 2).trans rfl, (blk_cell HX6.out 3).trans rfl⟩ (fun hHeld => ?_)
          clear hK K
          refine norm_ (a' := ?_) ?_ ?_
          rotate_left
          · show Act.put _ (some 106) _ = _
            simp only [Act.put, List.setIfInBounds_toArray, List.set_cons_zero, List.set_cons_succ, i64_w, i32_w]
            rfl
          refine pure_ (i := 29) (N := (some 107)) (v := .bool false) (a' := ?_) #[true, true, true, true, true, true, true, true, true, true, true, true, true, true, true, true, true, true, true, true, true, true, true, true, true, true, true, true, true, true, false, false, false, false, false, false, false, false, false, false, false, false, false, false] rfl rfl (by kernel_rfl) (fun _ _ _ h => h) (Or.inl ⟨by rfl, ?_⟩) ?_ ?_
          · intro w'
            first | (go_simp; with_reducible rfl) | (go_simp; done) | (simp [go_sem]; done)
          rotate_left
          · simp only [Act.put, List.setIfInBounds_toArray, List.set_cons_zero, List.set_cons_succ, i64_w, i32_w]
            rfl
          refine pure_ (i := 30) (N := (some 108)) (v := .bool false) (a' := ?_) #[true, true, true, true, true, true, true, true, true, true, true, true, true, true, true, true, true, true, true, true, true, true, true, true, true, true, true, true, true, true, true, false, false, false, false, false, false, false, false, false, false, false, false, false] rfl rfl (by kernel_rfl) (fun _ _ _ h => h) (Or.inl ⟨by rfl, ?_⟩) ?_ ?_
          · intro w'
            first | (go_simp; with_reducible rfl) | (go_simp; done) | (simp [go_sem]; done)
          rotate_left
          · simp only [Act.put, List.setIfInBounds_toArray, List.set_cons_zero, List.set_cons_succ, i64_w, i32_w]
            rfl
          refine pure_ (i := 31) (N := (some 109)) (v := .bool false) (a' := ?_) #[true, true, true, true, true, true, true, true, true, true, true, true, true, true, true, true, true, true, true, true, true, true, true, true, true, true, true, true, true, true, true, true, false, false, false, false, false, false, false, false, false, false, false, false] rfl rfl (by kernel_rfl) (fun _ _ _ h => h) (Or.inl ⟨by rfl, ?_⟩) ?_ ?_
          · intro w'
            first | (go_simp; with_reducible rfl) | (go_simp; done) | (simp [go_sem]; done)
          rotate_left
          · simp only [Act.put, List.setIfInBounds_toArray, List.set_cons_zero, List.set_cons_succ, i64_w, i32_w]
            rfl
          refine pure_ (i := 32) (N := (some 110)) (v := ?_) (a' := ?_) #[true, true, true, true, true, true, true, true, true, true, true, true, true, true, true, true, true, true, true, true, true, true, true, true, true, true, true, true, true, true, true, true, true, false, false, false, false, false, false, false, false, false, false, false] rfl rfl (by kernel_rfl) (fun _ _ _ h => h) (Or.inl ⟨by rfl, ?_⟩) ?_ ?_
          rotate_left
          · intro w'
            go_simp
            with_reducible rfl
          rotate_left
          · simp only [Act.put, List.setIfInBounds_toArray, List.set_cons_zero, List.set_cons_succ, i64_w, i32_w]
            rfl
          refine pure_ (i := 33) (N := (some 111)) (v := ?_) (a' := ?_) #[true, true, true, true, true, true, true, true, true, true, true, true, true, true, true, true, true, true, true, true, true, true, true, true, true, true, true, true, true, true, true, true, true, true, false, false, false, false, false, false, false, false, false, false] rfl rfl (by kernel_rfl) (fun _ _ _ h => h) (Or.inl ⟨by rfl, ?_⟩) ?_ ?_
          rotate_left
          · intro w'
            go_simp
            with_reducible rfl
          rotate_left
          · simp only [Act.put, List.setIfInBounds_toArray, List.set_cons_zero, List.set_cons_succ, i64_w, i32_w]
            rfl
          refine take_ (i := 34) (N := (some 112)) (v := ?_) (a' := ?_) #[true, true, true, true, true, true, true, true, true, true, true, true, true, true, true, true, true, true, true, true, true, true, true, true, true, true, true, true, true, true, true, true, true, true, true, false, false, false, false, false, false, false, false, false] rfl rfl (by kernel_rfl) (fun _ _ _ h => h) (Or.inl ⟨by rfl, ?_⟩) hHeld ?_ ?_
          rotate_left
          · rintro w' ⟨s0, s1, s2, s3, s4, s5, s6, s7⟩
            go_simp
            with_reducible rfl
          rotate_left
          · simp only [Act.put, List.setIfInBounds_toArray, List.set_cons_zero, List.set_cons_succ, i64_w, i32_w]
            rfl
          refine pure_ (i := 35) (N := (some 113)) (v := .bool false) (a' := ?_) #[true, true, true, true, true, true, true, true, true, true, true, true, true, true, true, true, true, true, true, true, true, true, true, true, true, true, true, true, true, true, true, true, true, true, true, true, false, false, false, false, false, false, false, false] rfl rfl (by kernel_rfl) (fun _ _ _ h => h) (Or.inl ⟨by rfl, ?_⟩) ?_ ?_
          · intro w'
            first | (go_simp; with_reducible rfl) | (go_simp; done) | (simp [go_sem]; done)
          rotate_left
          · simp only [Act.put, List.setIfInBounds_toArray, List.set_cons_zero, List.set_cons_succ, i64_w, i32_w]
            rfl
          refine pure_ (i := 36) (N := (some 114)) (v := .bool false) (a' := ?_) #[true, true, true, true, true, true, true, true, true, true, true, true, true, true, true, true, true, true, true, true, true, true, true, true, true, true, true, true, true, true, true, true, true, true, true, true, true, false, false, false, false, false, false, false] rfl rfl (by kernel_rfl) (fun _ _ _ h => h) (Or.inl ⟨by rfl, ?_⟩) ?_ ?_
          · intro w'
            first | (go_simp; with_reducible rfl) | (go_simp; done) | (simp [go_sem]; done)
          rotate_left
          · simp only [Act.put, List.setIfInBounds_toArray, List.set_cons_zero, List.set_cons_succ, i64_w, i32_w]
            rfl
          refine pure_ (i := 37) (N := (some 115)) (v := .bool false) (a' := ?_) #[true, true, true, true, true, true, true, true, true, true, true, true, true, true, true, true, true, true, true, true, true, true, true, true, true, true, true, true, true, true, true, true, true, true, true, true, true, true, false, false, false, false, false, false] rfl rfl (by kernel_rfl) (fun _ _ _ h => h) (Or.inl ⟨by rfl, ?_⟩) ?_ ?_
          · intro w'
            first | (go_simp; with_reducible rfl) | (go_simp; done) | (simp [go_sem]; done)
          rotate_left
          · simp only [Act.put, List.setIfInBounds_toArray, List.set_cons_zero, List.set_cons_succ, i64_w, i32_w]
            rfl
          refine pure_ (i := 38) (N := (some 116)) (v := .bool k) (a' := ?_) #[true, true, true, true, true, true, true, true, true, true, true, true, true, true, true, true, true, true, true, true, true, true, true, true, true, true, true, true, true, true, true, true, true, true, true, true, true, true, true, false, false, false, false, false] rfl rfl (by kernel_rfl) (fun _ _ _ h => h) (Or.inl ⟨by rfl, ?_⟩) ?_ ?_
          · intro w'
            first | (go_simp; with_reducible rfl) | (go_simp; done) | (simp [go_sem]; done)
          rotate_left
          · simp only [Act.put, List.setIfInBounds_toArray, List.set_cons_zero, List.set_cons_succ, i64_w, i32_w]
            rfl
          refine pure_ (i := 39) (N := (some 117)) (v := ?_) (a' := ?_) #[true, true, true, true, true, true, true, true, true, true, true, true, true, true, true, true, true, true, true, true, true, true, true, true, true, true, true, true, true, true, true, true, true, true, true, true, true, true, true, true, false, false, false, false] rfl rfl (by kernel_rfl) (fun _ _ _ h => h) (Or.inl ⟨by rfl, ?_⟩) ?_ ?_
          rotate_left
          · intro w'
            go_simp
            with_reducible rfl
          rotate_left
          · simp only [Act.put, List.setIfInBounds_toArray, List.set_cons_zero, List.set_cons_succ, i64_w, i32_w]
            rfl
          refine take_ (i := 40) (N := (some 118)) (v := ?_) (a' := ?_) #[true, true, true, true, true, true, true, true, true, true, true, true, true, true, true, true, true, true, true, true, true, true, true, true, true, true, true, true, true, true, true, true, true, true, true, true, true, true, true, true, true, false, false, false] rfl rfl (by kernel_rfl) (fun _ _ _ h => h) (Or.inl ⟨by rfl, ?_⟩) hHeld ?_ ?_
          rotate_left
          · rintro w' ⟨s0, s1, s2, s3, s4, s5, s6, s7⟩
            go_simp
            with_reducible rfl
          rotate_left
          · simp only [Act.put, List.setIfInBounds_toArray, List.set_cons_zero, List.set_cons_succ, i64_w, i32_w]
            rfl
          refine pure_ (i := 41) (N := (some 119)) (v := .bool k) (a' := ?_) #[true, true, true, true, true, true, true, true, true, true, true, true, true, true, true, true, true, true, true, true, true, true, true, true, true, true, true, true, true, true, true, true, true, true, true, true, true, true, true, true, true, true, false, false] rfl rfl (by kernel_rfl) (fun _ _ _ h => h) (Or.inl ⟨by rfl, ?_⟩) ?_ ?_
          · intro w'
            first | (go_simp; with_reducible rfl) | (go_simp; done) | (simp [go_sem]; done)
          rotate_left
          · simp only [Act.put, List.setIfInBounds_toArray, List.set_cons_zero, List.set_cons_succ, i64_w, i32_w]
            rfl
          refine pure_ (i := 42) (N := (some 120)) (v := .bool false) (a' := ?_) #[true, true, true, true, true, true, true, true, true, true, true, true, true, true, true, true, true, true, true, true, true, true, true, true, true, true, true, true, true, true, true, true, true, true, true, true, true, true, true, true, true, true, true, false] rfl rfl (by kernel_rfl) (fun _ _ _ h => h) (Or.inl ⟨by rfl, ?_⟩) ?_ ?_
          · intro w'
            first | (go_simp; with_reducible rfl) | (go_simp; done) | (simp [go_sem]; done)
          rotate_left
          · simp only [Act.put, List.setIfInBounds_toArray, List.set_cons_zero, List.set_cons_succ, i64_w, i32_w]
            rfl
          refine pure_ (i := 43) (N := (some 121)) (v := .bool false) (a' := ?_) #[true, true, true, true, true, true, true, true, true, true, true, true, true, true, true, true, true, true, true, true, true, true, true, true, true, true, true, true, true, true, true, true, true, true, true, true, true, true, true, true, true, true, true, true] rfl rfl (by kernel_rfl) (fun _ _ _ h => h) (Or.inl ⟨by rfl, ?_⟩) ?_ ?_
          · intro w'
            first | (go_simp; with_reducible rfl) | (go_simp; done) | (simp [go_sem]; done)
          rotate_left
          · simp only [Act.put, List.setIfInBounds_toArray, List.set_cons_zero, List.set_cons_succ, i64_w, i32_w]
            rfl
          refine done_ (by kernel_rfl) ?_
          clear hHeld HNR HRN HX16 H0
          go_wp2_with fail
          go_roundw
          case rel => exact ⟨i + 1, X, hlt, rfl, HXG, ⟨by rw [HK.out.1]; exact HI.out⟩, HX6, HB⟩
          case measure => exact meas_up hlt
-- ENDBODY
      · have q0 : decide ((i : Int) < (l.length : Int)) = false := decide_eq_false (by omega)
        go_wp2_with fail
        refine (fixed_any _).mono ?_
        rintro e w9 ⟨rfl, hb⟩
        go_wp2_with fail
        go_ret
        exact ⟨rfl, below_step HB.out hb⟩
end Go.Proofs.YtofmingbmcinhaaDoor.Bg
