/- The document's altitude of a count (layer 6), as the laws of layer 18 reach it: it is the program's. -/
import Derived.Test.YtofmingbmcinhaaDoorBig7
import Derived.Test.YtofmingbmcinhaaDoorAlt
namespace Go.Proofs.YtofmingbmcinhaaDoor.Bg
open Go.RowKit Go.Proofs.YtofmingbmcinhaaDoorW.PrintWords Go.Proofs.YtofmingbmcinhaaDoorW.PrintLast Go.Proofs.YtofmingbmcinhaaDoorW.PrintMore Go.Proofs.YtofmingbmcinhaaDoor.PGroundPlays Go.Proofs.YtofmingbmcinhaaDoor.Gd
set_option linter.unusedVariables false
set_option linter.unusedSimpArgs false

theorem rgood_any (w : World) (c : Int) : Calls Tryd.prog 17 #[.int .i64 c] w fun e w' => e = .returned (.bool (good c)) ∧ Below w.heap.size w w' := by
  have h : aneroidref06_Good.f c = some (good c) := by
    unfold aneroidref06_Good.f good
    by_cases h1 : c > 90527
    · rw [if_pos h1, decide_eq_true (show 90528 ≤ c by omega), Bool.true_and]
      congr 1
      by_cases h2 : c ≤ 430515
      · rw [decide_eq_true h2, decide_eq_true (by omega)]
      · rw [decide_eq_false h2, decide_eq_false (by omega)]
    · rw [if_neg h1, decide_eq_false (show ¬ 90528 ≤ c by omega), Bool.false_and]
  refine (aneroidref06_Good.calls c (good c) w h).mono ?_
  rintro e w' ⟨he, hd⟩
  exact ⟨he, hd.below⟩
theorem table_f : aneroidref06_Table.f = some Gd.T := rfl
/-- The last place whose count isn't below c, among the first k. -/
def lastOf (c : Int) (k : Nat) : Nat := min k (ix c) - 1
theorem t_ge (c : Int) (h : good c = true) (k : Nat) (hk : k < 47) : c ≤ Gd.t k ↔ k < ix c := by
  obtain ⟨h1, h2, h3, h4⟩ := ix_facts c h
  constructor
  · intro hc
    rcases Nat.lt_or_ge k (ix c) with hlt | hge
    · exact hlt
    · exfalso
      have anti : ∀ m j : Nat, j + m < 47 → Gd.t (j + m) ≤ Gd.t j := by
        intro m
        induction m with
        | zero => intro j _; exact Int.le_refl _
        | succ m ih =>
          intro j hj
          have s := t_step ⟨j + m, by omega⟩
          have := ih j (by omega)
          simp only at s
          rw [show j + (m + 1) = j + m + 1 by omega]
          omega
      have := anti (k - ix c) (ix c) (by omega)
      rw [show ix c + (k - ix c) = k by omega] at this
      omega
  · exact h4 k

set_option maxRecDepth 100000 in
set_option maxHeartbeats 4000000 in
theorem ralt_any (w : World) (c : Int) :
    Calls Tryd.prog 19 #[.int .i64 c] w fun e w' => e = .returned (.tuple #[.int .i64 (if good c then alt c else 0), .int .i64 (if good c then 0 else 2)]) ∧ Below w.heap.size w w' := by
  cases hg : good c with
  | false =>
    go_enter Tryd.func19, Tryd.ntmps19
    go_wp2_with fail
    refine (rgood_any w c).mono ?_
    rintro e w1 ⟨rfl, hb⟩
    rw [hg]
    go_wp2_with fail
    refine bodyPost_ret (results_tmp2 rfl _ _ _) rfl ?_
    exact ⟨rfl, hb⟩
  | true =>
    obtain ⟨i1, i2, i3, i4⟩ := ix_facts c hg
    have TG := Aside0.mk (t_ge c hg)
    have HG := Aside0.mk hg
    go_enter Tryd.func19, Tryd.ntmps19
    go_wp2_with fail
    refine (rgood_any w c).mono ?_
    rintro e w1 ⟨rfl, hb⟩
    rw [hg]
    have HB := Aside0.mk hb
    clear hb hg
    go_wp2_with fail
    refine (aneroidref06_Table.calls Gd.T w1 table_f).mono ?_
    rintro e w2 ⟨v, rfl, ho, hb⟩
    have HO := Aside0.mk (Kd.R_lower ho HB.out.size)
    replace HB := Aside0.mk (below_step HB.out hb)
    clear ho hb
    obtain ⟨A4, c4, rfl⟩ := Kd.R_slice HO.out
    have hlen : Gd.T.length = 47 := by decide
    rw [hlen]
    have HC := Aside0.mk (Kd.R_reads' HO.out).2.2
    go_wp2_with fail
    go_loopw [5, 6] (fun v5 v6 wr => ∃ k : Nat, k ≤ 47 ∧ v6 = .int .i64 k ∧ v5 = .int .i64 (lastOf c k) ∧ Aside0 (Kd.C (Kd.int .i64) wr A4 Gd.T.length Gd.T) ∧ Aside0 (Below w.heap.size w wr)) (fun _ v6 _ => 47 - (intOf v6).toNat)
    case atStart => exact ⟨0, Nat.zero_le _, rfl, by simp [lastOf], HC, HB⟩
    case round =>
      clear HC HB HO
      obtain ⟨k, hk, rfl, rfl, HC, HB⟩ := hrel
      by_cases hlt : k < 47
      · have p0 : (0 : Int) ≤ (k : Int) := Int.natCast_nonneg _
        have p1 : (k : Int) < 47 := by omega
        obtain ⟨ad, rfl, hx⟩ := Kd.at_int HC.out (k : Int) p0 (by rw [hlen]; exact p1)
        rw [Int.toNat_natCast] at hx
        have hx2 : wr.cell? (ad.add k) = some (.int .i64 (Gd.t k)) := by rw [hx]; unfold Gd.t rd; rw [Int.toNat_natCast]
        have q0 : decide ((k : Int) < 47) = true := decide_eq_true p1
        have q2 : wrap64 ((k : Int) + 1) = ((k + 1 : Nat) : Int) := Bg.cast_succ k (by omega)
        have hk8 : k + 1 ≤ 47 := hlt
        have p2 := eq_true p0
        have p3 := eq_true p1
        clear hx i3 i4
        by_cases hge : c ≤ Gd.t k
        · have q1 : decide (c ≤ Gd.t k) = true := decide_eq_true hge
          have hki := (TG.out k hlt).1 hge
          have hl : lastOf c (k + 1) = k := by unfold lastOf; omega
          clear hge hki
          go_wp2_with fail
          go_roundw
          case rel => exact ⟨k + 1, hk8, by first | rfl | rw [q2], by rw [hl], HC, HB⟩
          case measure =>
            (try rw [q2])
            show 47 - (((k + 1 : Nat) : Int)).toNat < 47 - ((k : Nat) : Int).toNat
            simp only [Int.toNat_natCast]
            exact meas hlt
        · have q1 : decide (c ≤ Gd.t k) = false := decide_eq_false hge
          have hki : ¬ k < ix c := fun h => hge ((TG.out k hlt).2 h)
          have hl : lastOf c (k + 1) = lastOf c k := by unfold lastOf; omega
          clear hge hki
          go_wp2_with fail
          go_roundw
          case rel => exact ⟨k + 1, hk8, by first | rfl | rw [q2], by rw [hl], HC, HB⟩
          case measure =>
            (try rw [q2])
            show 47 - (((k + 1 : Nat) : Int)).toNat < 47 - ((k : Nat) : Int).toNat
            simp only [Int.toNat_natCast]
            exact meas hlt
      · have hk47 : k = 47 := by omega
        subst hk47
        obtain ⟨n, hn⟩ : ∃ n, ix c = n + 1 := ⟨ix c - 1, by omega⟩
        have hla : lastOf c 47 = n := by unfold lastOf; omega
        have hal : alt c = altAt n c := by unfold alt; rw [hn, Nat.add_sub_cancel]
        rw [hla]
        rw [hn] at i2 i3 i4
        have r1 := i4 n (by omega)
        have r3 := t_step ⟨n, by omega⟩
        have r4 := t_range ⟨n, by omega⟩
        have r5 := t_range ⟨n + 1, by omega⟩
        simp only at r3 r4 r5
        obtain ⟨z, hz⟩ : ∃ z : Int, z = (n : Int) := ⟨_, rfl⟩
        have n0 : (0 : Int) ≤ z := by omega
        have n1 : z < 46 := by omega
        have n4 : (0 : Int) ≤ z + 1 := by omega
        have n6 : z.toNat = n := by omega
        have n5 : (z + 1).toNat = n + 1 := by omega
        obtain ⟨ad, rfl, hx⟩ := Kd.at_int HC.out (z : Int) n0 (by rw [hlen]; omega)
        obtain ⟨ad2, had2, hy⟩ := Kd.at_int HC.out (z + 1 : Int) n4 (by rw [hlen]; omega)
        obtain rfl := Option.some.inj had2
        rw [n6] at hx
        rw [n5] at hy
        obtain ⟨p, hp⟩ : ∃ p, p = Gd.t n := ⟨_, rfl⟩
        obtain ⟨b, hb⟩ : ∃ b, b = Gd.t (n + 1) := ⟨_, rfl⟩
        have hx2 : wr.cell? (ad.add n) = some (.int .i64 p) := by rw [hx, hp]; unfold Gd.t rd; rw [n6]
        have hy2 : wr.cell? (ad.add (n + 1)) = some (.int .i64 b) := by rw [hy, hb]; unfold Gd.t rd; rw [n5]
        rw [← hp] at r1 r3 r4
        rw [← hb] at i3 r3 r5
        obtain ⟨nn, hnn⟩ : ∃ nn, nn = n + 1 := ⟨_, rfl⟩
        rw [← hnn] at n5 hy2
        have HX := Aside0.mk hx2
        have HY := Aside0.mk hy2
        have HP := Aside0.mk hp
        have HBB := Aside0.mk hb
        have HZ := Aside0.mk hz
        have HAL := Aside0.mk hal
        have HN46 := Aside0.mk (show 0 ≤ z ∧ z < 46 from ⟨n0, n1⟩)
        have e1 : wrap64 (p - c) = p - c := Bg.w64 (by omega) (by omega)
        have e2 : wrap64 (256 * (p - c)) = 256 * (p - c) := Bg.w64 (by omega) (by omega)
        have e3 : wrap64 (p - b) = p - b := Bg.w64 (by omega) (by omega)
        have E3 := Aside0.mk e3
        have e4 : wrap64 (z + 1) = z + 1 := Bg.w64 (by omega) (by omega)
        have u0 : 0 ≤ 256 * (p - c) ∧ 256 * (p - c) < 4194304 := by omega
        have d0 : 0 < p - b ∧ p - b ≤ 12761 := by omega
        rw [← hz]
        have p2 := eq_true n0
        have p3 := eq_true (show z < 47 by omega)
        have p4 := eq_true n4
        have p5 := eq_true (show z + 1 < 47 by omega)
        have U0 := Aside0.mk u0
        have D0 := Aside0.mk d0
        have R1 := Aside0.mk r1
        have R2 := Aside0.mk i3
        have q0 : decide ((47 : Int) < 47) = false := by decide
        clear hnn
        clear hx hy hx2 hy2 hp hb hz hal hla hn r1 r3 r4 r5 i1 i2 i3 i4 u0 d0 hlt n0 n1 n4 TG hk
        have hx := HX.out
        have hy := HY.out
        go_wp2_with fail
        refine (of_any wr _ U0.out.1 (Int.lt_of_lt_of_le U0.out.2 (by decide))).mono ?_
        rintro e w3 ⟨v3, rfl, hv, hb⟩
        have VA := Aside0.mk hv
        replace HX := Aside0.mk (pw_cell_below hb HX.out)
        replace HY := Aside0.mk (pw_cell_below hb HY.out)
        replace HB := Aside0.mk (below_step HB.out hb)
        clear hv hb hx hy
        go_wp2_with fail
        refine (aneroidref01_Power.calls 20 40 false [0, 0, 256] w3 power40).mono ?_
        rintro e w4 ⟨v4, rfl, ho, hb⟩
        have VP := Aside0.mk (power_low ho)
        replace VA := Aside0.mk (VA.out.below hb)
        replace HX := Aside0.mk (pw_cell_below hb HX.out)
        replace HY := Aside0.mk (pw_cell_below hb HY.out)
        replace HB := Aside0.mk (below_step HB.out hb)
        clear ho hb
        go_wp2_with fail
        refine (mul_any w4 _ _ (256 * (p - c)) 1099511627776 VA.out VP.out (by have := U0.out; unfold Small; omega) (by unfold Small; decide) U0.out.1 (by decide)).mono ?_
        rintro e w5 ⟨v5, rfl, hv, hb⟩
        obtain ⟨n7, A7, m7, c7, rfl⟩ := hv.form
        have VM := Aside0.mk hv
        replace HX := Aside0.mk (pw_cell_below hb HX.out)
        replace HY := Aside0.mk (pw_cell_below hb HY.out)
        replace HB := Aside0.mk (below_step HB.out hb)
        clear hv hb VA VP
        obtain ⟨M, hM⟩ : ∃ M, M = 256 * (p - c) * 1099511627776 := ⟨_, rfl⟩
        rw [← hM] at VM
        have hq := qd p b c R2.out R1.out
        obtain ⟨q, hqq⟩ : ∃ q, q = M / (p - b) := ⟨_, rfl⟩
        have hM2 : M = 281474976710656 * (p - c) := by rw [hM]; omega
        have hMs : Small M := by have := U0.out; unfold Small; rw [hM2]; omega
        have hM0 : 0 ≤ M := by have := U0.out; rw [hM2]; omega
        have hq0 : 0 ≤ q := by rw [hqq, hM2]; exact hq.1
        have hq1 : q < 281474976710656 := by rw [hqq, hM2]; exact hq.2.1
        have HQQ := Aside0.mk (show q = 281474976710656 * (p - c) / (p - b) by rw [hqq, hM2])
        have HMS := Aside0.mk hMs
        have HM0 := Aside0.mk hM0
        have HQ0 := Aside0.mk hq0
        have HQ1 := Aside0.mk hq1
        have HQM := Aside0.mk hqq
        clear hM hq hqq hM2 hMs hM0 hq0 hq1 e1 e2
        go_upto_region 11 with fail
        have HX7 := Aside0.mk (blk_new w5 (.cells #[.bool n7, .slice A7 m7 c7] 55))
        have hb7 := below_alloc (Below.refl w5.heap.size w5) (.cells #[.bool n7, .slice A7 m7 c7] 55)
        replace VM := Aside0.mk (VM.out.below hb7)
        replace HX := Aside0.mk (pw_cell_below hb7 HX.out)
        replace HY := Aside0.mk (pw_cell_below hb7 HY.out)
        replace HB := Aside0.mk (below_step HB.out hb7)
        obtain ⟨b7, hb77⟩ : ∃ b, b = w5.heap.size := ⟨_, rfl⟩
        rw [← hb77] at HX7 ⊢
        clear hb7 hb77
        generalize w5.alloc (.cells #[.bool n7, .slice A7 m7 c7] 55) = w6 at HX7 VM HX HY HB ⊢
        refine start_ (n := 19) (S := fun w' => w'.cell? ⟨b7, 0, none⟩ = some (.bool n7) ∧ w'.cell? ⟨b7, 1, none⟩ = some (.slice A7 m7 c7) ∧ w'.cell? (ad.add n) = some (.int .i64 p) ∧ w'.cell? (ad.add nn) = some (.int .i64 b)) (ds := []) #[false, false, false, false, false, false, false, false, false, false, false, false, false, false, false, false, false, false, false] (by kernel_rfl) rfl rfl ⟨(blk_cell HX7.out 0).trans rfl, (blk_cell HX7.out 1).trans rfl, HX.out, HY.out⟩ (fun hHeld => ?_)
        have HHB := Aside0.mk (show Below w6.heap.size w6 w6.drew from below_drew (Below.refl _ _))
        replace VM := Aside0.mk (VM.out.below HHB.out)
        replace HX := Aside0.mk (pw_cell_below HHB.out HX.out)
        replace HY := Aside0.mk (pw_cell_below HHB.out HY.out)
        replace HX7 := Aside0.mk (blk_drew HX7.out)
        replace HB := Aside0.mk (below_drew HB.out)
        clear HHB
        generalize w6.drew = Wd at HX7 VM HX HY HB hHeld ⊢
        refine take_ (i := 0) (N := (some 38)) (v := ?_) (a' := ?_) #[true, false, false, false, false, false, false, false, false, false, false, false, false, false, false, false, false, false, false] rfl rfl (by kernel_rfl) (fun _ _ _ h => h) (Or.inl ⟨by rfl, ?_⟩) hHeld ?_ ?_
        rotate_left
        · rintro w' ⟨s0, s1, s2, s3⟩
          go_simp
          with_reducible rfl
        rotate_left
        · simp only [Act.put, List.setIfInBounds_toArray, List.set_cons_zero, List.set_cons_succ, i64_w, i32_w]
          rfl
        refine pure_ (i := 1) (N := (some 39)) (v := ?_) (a' := ?_) #[true, true, false, false, false, false, false, false, false, false, false, false, false, false, false, false, false, false, false] rfl rfl (by kernel_rfl) (fun _ _ _ h => h) (Or.inl ⟨by rfl, ?_⟩) ?_ ?_
        rotate_left
        · intro w'
          go_simp
          with_reducible rfl
        rotate_left
        · simp only [Act.put, List.setIfInBounds_toArray, List.set_cons_zero, List.set_cons_succ, i64_w, i32_w]
          rfl
        refine pure_ (i := 2) (N := (some 40)) (v := ?_) (a' := ?_) #[true, true, true, false, false, false, false, false, false, false, false, false, false, false, false, false, false, false, false] rfl rfl (by kernel_rfl) (fun _ _ _ h => h) (Or.inl ⟨by rfl, ?_⟩) ?_ ?_
        rotate_left
        · intro w'
          go_simp
          with_reducible rfl
        rotate_left
        · simp only [Act.put, List.setIfInBounds_toArray, List.set_cons_zero, List.set_cons_succ, i64_w, i32_w]
          rfl
        refine pure_ (i := 3) (N := (some 41)) (v := ?_) (a' := ?_) #[true, true, true, true, false, false, false, false, false, false, false, false, false, false, false, false, false, false, false] rfl rfl (by kernel_rfl) (fun _ _ _ h => h) (Or.inl ⟨by rfl, ?_⟩) ?_ ?_
        rotate_left
        · intro w'
          go_simp
          with_reducible rfl
        rotate_left
        · simp only [Act.put, List.setIfInBounds_toArray, List.set_cons_zero, List.set_cons_succ, i64_w, i32_w]
          rfl
        refine take_ (i := 4) (N := (some 42)) (v := ?_) (a' := ?_) #[true, true, true, true, true, false, false, false, false, false, false, false, false, false, false, false, false, false, false] rfl rfl (by kernel_rfl) (fun _ _ _ h => h) (Or.inl ⟨by rfl, ?_⟩) hHeld ?_ ?_
        rotate_left
        · rintro w' ⟨s0, s1, s2, s3⟩
          go_simp
          with_reducible rfl
        rotate_left
        · simp only [Act.put, List.setIfInBounds_toArray, List.set_cons_zero, List.set_cons_succ, i64_w, i32_w]
          rfl
        refine pure_ (i := 5) (N := (some 43)) (v := ?_) (a' := ?_) #[true, true, true, true, true, true, false, false, false, false, false, false, false, false, false, false, false, false, false] rfl rfl (by kernel_rfl) (fun _ _ _ h => h) (Or.inl ⟨by rfl, ?_⟩) ?_ ?_
        rotate_left
        · intro w'
          go_simp
          with_reducible rfl
        rotate_left
        · simp only [Act.put, List.setIfInBounds_toArray, List.set_cons_zero, List.set_cons_succ, i64_w, i32_w]
          rfl
        refine pure_ (i := 6) (N := (some 44)) (v := ?_) (a' := ?_) #[true, true, true, true, true, true, true, false, false, false, false, false, false, false, false, false, false, false, false] rfl rfl (by kernel_rfl) (fun _ _ _ h => h) (Or.inl ⟨by rfl, ?_⟩) ?_ ?_
        rotate_left
        · intro w'
          go_simp
          with_reducible rfl
        rotate_left
        · simp only [Act.put, List.setIfInBounds_toArray, List.set_cons_zero, List.set_cons_succ, i64_w, i32_w]
          rfl
        refine pure_ (i := 7) (N := (some 45)) (v := ?_) (a' := ?_) #[true, true, true, true, true, true, true, true, false, false, false, false, false, false, false, false, false, false, false] rfl rfl (by kernel_rfl) (fun _ _ _ h => h) (Or.inl ⟨by rfl, ?_⟩) ?_ ?_
        rotate_left
        · intro w'
          go_simp
          with_reducible rfl
        rotate_left
        · simp only [Act.put, List.setIfInBounds_toArray, List.set_cons_zero, List.set_cons_succ, i64_w, i32_w]
          rfl
        refine pure_ (i := 8) (N := (some 46)) (v := ?_) (a' := ?_) #[true, true, true, true, true, true, true, true, true, false, false, false, false, false, false, false, false, false, false] rfl rfl (by kernel_rfl) (fun _ _ _ h => h) (Or.inl ⟨by rfl, ?_⟩) ?_ ?_
        rotate_left
        · intro w'
          go_simp
          with_reducible rfl
        rotate_left
        · simp only [Act.put, List.setIfInBounds_toArray, List.set_cons_zero, List.set_cons_succ, i64_w, i32_w]
          rfl
        refine take_ (i := 9) (N := (some 47)) (v := ?_) (a' := ?_) #[true, true, true, true, true, true, true, true, true, true, false, false, false, false, false, false, false, false, false] rfl rfl (by kernel_rfl) (fun _ _ _ h => h) (Or.inl ⟨by rfl, ?_⟩) hHeld ?_ ?_
        rotate_left
        · rintro w' ⟨s0, s1, s2, s3⟩
          go_simp
          with_reducible rfl
        rotate_left
        · simp only [Act.put, List.setIfInBounds_toArray, List.set_cons_zero, List.set_cons_succ, i64_w, i32_w]
          rfl
        refine pure_ (i := 10) (N := (some 48)) (v := ?_) (a' := ?_) #[true, true, true, true, true, true, true, true, true, true, true, false, false, false, false, false, false, false, false] rfl rfl (by kernel_rfl) (fun _ _ _ h => h) (Or.inl ⟨by rfl, ?_⟩) ?_ ?_
        rotate_left
        · intro w'
          go_simp
          with_reducible rfl
        rotate_left
        · simp only [Act.put, List.setIfInBounds_toArray, List.set_cons_zero, List.set_cons_succ, i64_w, i32_w]
          rfl
        refine one_ (i := 11) (N := (some 49)) #[true, true, true, true, true, true, true, true, true, true, true, true, false, false, false, false, false, false, false] rfl rfl (by kernel_rfl) (by decide) (fun K hK => ?_)
        refine goes_ Tryd.func24 (by kernel_rfl) rfl #[.int .i64 (wrap64 (p - b))] (by rfl) rfl rfl (by (try simp only [List.map_toArray, List.map_cons, List.map_nil]); first | done | rfl) ?_
        rw [show wrap64 (p - b) = p - b from E3.out]
        refine (of_any Wd (p - b) (Int.le_of_lt D0.out.1) (Int.lt_of_le_of_lt D0.out.2 (by decide))).mono ?_
        rintro e We ⟨v8, rfl, hv, hb⟩
        replace VM := Aside0.mk (VM.out.below hb)
        replace HX := Aside0.mk (pw_cell_below hb HX.out)
        replace HY := Aside0.mk (pw_cell_below hb HY.out)
        replace HX7 := Aside0.mk (blk_below HX7.out hb)
        replace HB := Aside0.mk (below_step HB.out hb)
        have V8 := Aside0.mk hv
        clear hv
        clear hb hHeld
        refine ⟨_, rfl, ?_⟩
        refine hK.out _ _ ⟨(blk_cell HX7.out 0).trans rfl, (blk_cell HX7.out 1).trans rfl, HX.out, HY.out⟩ (fun hHeld => ?_)
        clear hK K
        refine norm_ (a' := ?_) ?_ ?_
        rotate_left
        · show Act.put _ (some 49) _ = _
          simp only [Act.put, List.setIfInBounds_toArray, List.set_cons_zero, List.set_cons_succ, i64_w, i32_w]
          rfl
        refine one_ (i := 12) (N := (some 50)) #[true, true, true, true, true, true, true, true, true, true, true, true, true, false, false, false, false, false, false] rfl rfl (by kernel_rfl) (by decide) (fun K hK => ?_)
        refine goes_ Tryd.func27 (by kernel_rfl) rfl #[.agg #[.bool n7, .slice A7 m7 c7], v8] (by rfl) rfl rfl (by (try simp only [List.map_toArray, List.map_cons, List.map_nil]); first | done | rfl) ?_
        refine (div_any We _ v8 M (p - b) VM.out V8.out HMS.out (Int.lt_of_le_of_lt D0.out.2 (by decide)) HM0.out D0.out.1).mono ?_
        rintro e Wf ⟨v9, rfl, hv, hb⟩
        replace VM := Aside0.mk (VM.out.below hb)
        replace HX := Aside0.mk (pw_cell_below hb HX.out)
        replace HY := Aside0.mk (pw_cell_below hb HY.out)
        replace HX7 := Aside0.mk (blk_below HX7.out hb)
        replace HB := Aside0.mk (below_step HB.out hb)
        have V9 := Aside0.mk hv
        clear hv V8
        clear hb hHeld
        refine ⟨_, rfl, ?_⟩
        refine hK.out _ _ ⟨(blk_cell HX7.out 0).trans rfl, (blk_cell HX7.out 1).trans rfl, HX.out, HY.out⟩ (fun hHeld => ?_)
        clear hK K
        refine norm_ (a' := ?_) ?_ ?_
        rotate_left
        · show Act.put _ (some 50) _ = _
          simp only [Act.put, List.setIfInBounds_toArray, List.set_cons_zero, List.set_cons_succ, i64_w, i32_w]
          rfl
        refine one_ (i := 13) (N := (some 51)) #[true, true, true, true, true, true, true, true, true, true, true, true, true, true, false, false, false, false, false] rfl rfl (by kernel_rfl) (by decide) (fun K hK => ?_)
        refine goes_ Tryd.func26 (by kernel_rfl) rfl #[v9] (by rfl) rfl rfl (by (try simp only [List.map_toArray, List.map_cons, List.map_nil]); first | done | rfl) ?_
        refine (int_any Wf v9 q (by rw [HQM.out]; exact V9.out) HQ0.out (Int.lt_of_lt_of_le HQ1.out (by decide))).mono ?_
        rintro e Wg ⟨rfl, hb⟩
        replace VM := Aside0.mk (VM.out.below hb)
        replace HX := Aside0.mk (pw_cell_below hb HX.out)
        replace HY := Aside0.mk (pw_cell_below hb HY.out)
        replace HX7 := Aside0.mk (blk_below HX7.out hb)
        replace HB := Aside0.mk (below_step HB.out hb)
        clear V9
        clear hb hHeld
        refine ⟨_, rfl, ?_⟩
        refine hK.out _ _ ⟨(blk_cell HX7.out 0).trans rfl, (blk_cell HX7.out 1).trans rfl, HX.out, HY.out⟩ (fun hHeld => ?_)
        clear hK K
        refine norm_ (a' := ?_) ?_ ?_
        rotate_left
        · show Act.put _ (some 51) _ = _
          simp only [Act.put, List.setIfInBounds_toArray, List.set_cons_zero, List.set_cons_succ, i64_w, i32_w]
          rfl
        refine pure_ (i := 14) (N := (some 37)) (v := ?_) (a' := ?_) #[true, true, true, true, true, true, true, true, true, true, true, true, true, true, true, false, false, false, false] rfl rfl (by kernel_rfl) (fun _ _ _ h => h) (Or.inl ⟨by rfl, ?_⟩) ?_ ?_
        rotate_left
        · intro w'
          go_simp
          with_reducible rfl
        rotate_left
        · simp only [Act.put, List.setIfInBounds_toArray, List.set_cons_zero, List.set_cons_succ, i64_w, i32_w]
          rfl
        refine pure_ (i := 15) (N := (some 52)) (v := ?_) (a' := ?_) #[true, true, true, true, true, true, true, true, true, true, true, true, true, true, true, true, false, false, false] rfl rfl (by kernel_rfl) (fun _ _ _ h => h) (Or.inl ⟨by rfl, ?_⟩) ?_ ?_
        rotate_left
        · intro w'
          go_simp
          with_reducible rfl
        rotate_left
        · simp only [Act.put, List.setIfInBounds_toArray, List.set_cons_zero, List.set_cons_succ, i64_w, i32_w]
          rfl
        refine pure_ (i := 16) (N := (some 53)) (v := ?_) (a' := ?_) #[true, true, true, true, true, true, true, true, true, true, true, true, true, true, true, true, true, false, false] rfl rfl (by kernel_rfl) (fun _ _ _ h => h) (Or.inl ⟨by rfl, ?_⟩) ?_ ?_
        rotate_left
        · intro w'
          go_simp
          with_reducible rfl
        rotate_left
        · simp only [Act.put, List.setIfInBounds_toArray, List.set_cons_zero, List.set_cons_succ, i64_w, i32_w]
          rfl
        refine pure_ (i := 17) (N := (some 8)) (v := ?_) (a' := ?_) #[true, true, true, true, true, true, true, true, true, true, true, true, true, true, true, true, true, true, false] rfl rfl (by kernel_rfl) (fun _ _ _ h => h) (Or.inl ⟨by rfl, ?_⟩) ?_ ?_
        rotate_left
        · intro w'
          go_simp
          with_reducible rfl
        rotate_left
        · simp only [Act.put, List.setIfInBounds_toArray, List.set_cons_zero, List.set_cons_succ, i64_w, i32_w]
          rfl
        refine pure_ (i := 18) (N := (some 9)) (v := ?_) (a' := ?_) #[true, true, true, true, true, true, true, true, true, true, true, true, true, true, true, true, true, true, true] rfl rfl (by kernel_rfl) (fun _ _ _ h => h) (Or.inl ⟨by rfl, ?_⟩) ?_ ?_
        rotate_left
        · intro w'
          go_simp
          with_reducible rfl
        rotate_left
        · simp only [Act.put, List.setIfInBounds_toArray, List.set_cons_zero, List.set_cons_succ, i64_w, i32_w]
          rfl
        refine done_ (by kernel_rfl) ?_
        clear hHeld
        have hh : aneroidref06_Height.f z = some (-562949953421312 + z * 281474976710656) := by
          have k0 : 0 ≤ z ∧ z < 46 := HN46.out
          unfold aneroidref06_Height.f
          rw [Bg.w64 (x := 256 * z) (by omega) (by omega), Bg.w64 (x := 256 * z - 512) (by omega) (by omega), Bg.w64 (x := (256 * z - 512) * 1099511627776) (by omega) (by omega)]
          congr 1
          omega
        have HH := Aside0.mk hh
        have k0 : 0 ≤ z ∧ z < 46 := HN46.out
        have v10 := (wz z q k0.1 k0.2 HQ0.out HQ1.out).2.2
        clear hh k0 e3 e4 p2 p3 p4 p5
        go_wp2_with fail
        refine (aneroidref06_Height.calls z _ Wg HH.out).mono ?_
        rintro e wh ⟨rfl, hd⟩
        have hb := hd.below
        clear hd
        go_wp2_with fail
        refine bodyPost_ret (results_tmp2 rfl _ _ _) rfl ?_
        have hfin : alt c = -562949953421312 + z * 281474976710656 + q := by rw [HAL.out]; unfold altAt; rw [← HP.out, ← HBB.out, ← HQQ.out, ← HZ.out]
        rw [hfin]
        exact ⟨by first | rfl | (rw [v10]; rfl), below_step HB.out hb⟩
end Go.Proofs.YtofmingbmcinhaaDoor.Bg
