/- Near the ground no level is below the ground's altitude, and it is rough; away from it, it is above that, and the count's own: the walk of the law GroundBelow of layer 18. -/
import Derived.Test.YtofmingbmcinhaaDoorFixed
import Derived.Test.YtofmingbmcinhaaDoorLevel
import Derived.Test.YtofmingbmcinhaaDoorBase2
namespace Go.Proofs.YtofmingbmcinhaaDoor.Gd
open Go.RowKit Go.Proofs.YtofmingbmcinhaaDoorW.PrintWords Go.Proofs.YtofmingbmcinhaaDoorW.PrintLast Go.Proofs.YtofmingbmcinhaaDoorW.PrintMore Go.Proofs.YtofmingbmcinhaaDoor.PGroundPlays
set_option linter.unusedVariables false
set_option linter.unusedSimpArgs false

theorem level_is (w0 w : World) (g : Nat) (band noise rough count : Int) (known : Bool) (c : Int) (V : Value) (hI : IsS47 w0 w g band noise rough count known) (hT : Tab w) (hV : levelR band noise rough count known c = V) :
    Calls Tryd.prog 10 #[.pointer (some ⟨g, 0, none⟩), .int .i64 c] w fun e w' => e = .returned V ∧ Below w.heap.size w w' := by
  rw [← hV]
  exact level_any w0 w g band noise rough count known c hI hT
theorem w64' {x : Int} (h0 : -9223372036854775808 ≤ x) (h1 : x ≤ 9223372036854775807) : wrap64 x = x := w64 h0 h1
/-- Not near: below the ground's count. -/
theorem far_lt (band base c : Int) (hb : good base = true) (hc : good c = true) (h : near (mx band 0) base true c = false) : c < base := by
  rw [good_iff] at hb
  have hc' := (good_iff c).1 hc
  simp only [near, hc, Bool.true_and, decide_eq_false_iff_not] at h
  rw [w64' (by omega) (by omega)] at h
  unfold mx at h
  split at h <;> omega

set_option maxRecDepth 100000 in
set_option maxHeartbeats 4000000 in
theorem lawBelow_any (w : World) (p0 p1 p2 base c : Int) (hT : Tab w) :
    Calls Tryd.prog 4 #[.agg #[.int .i64 p0, .int .i64 p1, .int .i64 p2], .int .i64 base, .int .i64 c] w fun e w' => e = .returned (.bool true) ∧ Below w.heap.size w w' := by
  have HT := Aside0.mk hT
  clear hT
  have hnil : ∀ (g : Nat) (w : World), (binOp .eql 25 (.pointer (some ⟨g, 0, none⟩)) (.pointer none)).run Tryd.prog w = .ok (.bool false) w := fun _ _ => by first | rfl | (simp [go_sem]; done)
  go_enter Tryd.func4, Tryd.ntmps4
  go_wp2_with fail
  have HX := Aside0.mk (blk_new w (.cells #[.int .i64 p0, .int .i64 p1, .int .i64 p2] 22))
  have HB := Aside0.mk (below_alloc (Below.refl w.heap.size w) (.cells #[.int .i64 p0, .int .i64 p1, .int .i64 p2] 22))
  obtain ⟨n, hn⟩ : ∃ n, n = w.heap.size := ⟨_, rfl⟩
  rw [← hn] at HX ⊢
  clear hn
  generalize w.alloc (.cells #[.int .i64 p0, .int .i64 p1, .int .i64 p2] 22) = w1 at HX HB ⊢
  refine (ground_New.calls p0 p1 p2 (mx p0 0) p1 p2 0 false w w1 HB.out rfl).mono ?_
  rintro e w2 ⟨g, rfl, hI, hB, hb⟩
  have HI := Aside0.mk hI
  replace HX := Aside0.mk (blk_below HX.out hb)
  replace HB := Aside0.mk hB
  clear hI hB hb
  go_wp2_with fail
  refine (set_any w w2 g _ _ _ _ _ _ HI.out HB.out).mono ?_
  rintro e w3 ⟨rfl, hI, hB, hk⟩
  have hgn : n ≠ g := Ne.symm (HI.out.ne_blk HX.out (by decide))
  replace HX := Aside0.mk ((hk.2 n (blk_lt HX.out) hgn (by simp)).trans HX.out)
  replace HB := Aside0.mk hB
  clear hB hk hgn
  cases hg : good base with
  | false =>
    rw [hg] at hI
    replace HI := Aside0.mk (show IsS47 w w3 g (mx p0 0) p1 p2 0 false from hI)
    clear hI
    go_wp2_with fail
    refine (ground_Ground_Known.calls g (mx p0 0) p1 p2 0 false 0 false (mx p0 0) p1 p2 0 false w w3 HI.out HB.out rfl).mono ?_
    rintro e w4 ⟨rfl, hI, hB, _⟩
    replace HI := Aside0.mk hI
    replace HB := Aside0.mk hB
    clear hI hB
    go_wp2_with fail
    refine (fixed_any w4).mono ?_
    rintro e w5 ⟨rfl, hb⟩
    replace HI := Aside0.mk (HI.out.below hb)
    replace HB := Aside0.mk (below_step HB.out hb)
    clear hb
    go_wp2_with fail
    refine (good_is w5 base false hg).mono ?_
    rintro e w6 ⟨rfl, hb⟩
    replace HI := Aside0.mk (HI.out.below hb)
    replace HB := Aside0.mk (below_step HB.out hb)
    clear hb
    go_wp2_with fail
    refine (near_any w w6 g _ _ _ _ _ _ HI.out).mono ?_
    rintro e w7 ⟨rfl, hb⟩
    rw [show near (mx p0 0) 0 false c = false by simp [near]]
    replace HB := Aside0.mk (below_step HB.out hb)
    clear hb
    go_wp2_with fail
    go_ret
    exact ⟨rfl, HB.out⟩
  | true =>
    rw [hg] at hI
    replace HI := Aside0.mk (show IsS47 w w3 g (mx p0 0) p1 p2 base true from hI)
    clear hI
    go_wp2_with fail
    refine (alt_yes w3 base (HT.out.below HB.out) hg).mono ?_
    rintro e w4 ⟨rfl, hb⟩
    replace HI := Aside0.mk (HI.out.below hb)
    replace HX := Aside0.mk (blk_below HX.out hb)
    replace HB := Aside0.mk (below_step HB.out hb)
    clear hb
    go_wp2_with fail
    cases hc : good c with
    | false =>
      refine (alt_no w4 c (HT.out.below HB.out) hc).mono ?_
      rintro e w5 ⟨rfl, hb⟩
      replace HI := Aside0.mk (HI.out.below hb)
      replace HX := Aside0.mk (blk_below HX.out hb)
      replace HB := Aside0.mk (below_step HB.out hb)
      clear hb
      go_wp2_with fail
      refine (level_is w w5 g _ _ _ _ _ _ (.tuple #[.int .i64 0, .int .i64 0, .bool false, .int .i64 2]) HI.out (HT.out.below HB.out) (by simp [levelR, near, hc])).mono ?_
      rintro e w6 ⟨rfl, hb⟩
      replace HX := Aside0.mk (blk_below HX.out hb)
      replace HB := Aside0.mk (below_step HB.out hb)
      clear hb
      go_wp2_with (first | (go_at_call 5; refine (fixed_any _).mono ?_; rintro e w9 ⟨rfl, hb⟩; replace HB := Aside0.mk (below_step HB.out hb); replace HX := Aside0.mk (blk_below HX.out hb); clear hb))
      go_ret
      exact ⟨by simp, HB.out⟩
    | true =>
      refine (alt_yes w4 c (HT.out.below HB.out) hc).mono ?_
      rintro e w5 ⟨rfl, hb⟩
      replace HI := Aside0.mk (HI.out.below hb)
      replace HX := Aside0.mk (blk_below HX.out hb)
      replace HB := Aside0.mk (below_step HB.out hb)
      clear hb
      go_wp2_with fail
      have hlow : altv base = alt base := by simp [altv, hg]
      have anti := alt_anti c base hc hg
      have anti2 := alt_anti base c hg hc
      cases hr : near (mx p0 0) base true c with
      | false =>
        have hlt := far_lt p0 base c hg hc hr
        refine (level_is w w5 g _ _ _ _ _ _ (.tuple #[.int .i64 (alt c), .int .i64 p1, .bool false, .int .i64 0]) HI.out (HT.out.below HB.out) (by simp [levelR, hr, hc])).mono ?_
        rintro e w6 ⟨rfl, hb⟩
        replace HX := Aside0.mk (blk_below HX.out hb)
        replace HB := Aside0.mk (below_step HB.out hb)
        clear hb
        replace anti := anti hlt
        clear anti2
        generalize alt c = own at anti ⊢
        generalize alt base = low at anti ⊢
        have b1 : decide (low < own) = true := decide_eq_true anti
        have b2 : decide (c < base) = true := decide_eq_true hlt
        have x1 : w6.cell? ⟨n, 1, none⟩ = some (.int .i64 p1) := (blk_cell HX.out 1).trans rfl
        clear anti hlt hr
        go_wp2_with fail
        refine (fixed_any w6).mono ?_
        rintro e w7 ⟨rfl, hb⟩
        replace HX := Aside0.mk (blk_below HX.out hb)
        replace HB := Aside0.mk (below_step HB.out hb)
        clear hb x1
        have x1 : w7.cell? ⟨n, 1, none⟩ = some (.int .i64 p1) := (blk_cell HX.out 1).trans rfl
        go_wp2_with fail
        go_ret
        exact ⟨by simp, HB.out⟩
      | true =>
        refine (level_is w w5 g _ _ _ _ _ _ (.tuple #[.int .i64 (mx (alt c) (alt base)), .int .i64 p2, .bool true, .int .i64 0]) HI.out (HT.out.below HB.out) (by simp [levelR, hr, hc, hlow])).mono ?_
        rintro e w6 ⟨rfl, hb⟩
        replace HX := Aside0.mk (blk_below HX.out hb)
        replace HB := Aside0.mk (below_step HB.out hb)
        clear hb
        have heq : c = base → alt c = alt base := fun h => by rw [h]
        generalize alt c = own at anti anti2 heq ⊢
        generalize alt base = low at anti anti2 heq ⊢
        by_cases hlt : own < low
        · have hm : mx own low = low := by unfold mx; rw [if_pos hlt]
          have b1 : decide (base < c) = true := by
            rcases Int.lt_trichotomy base c with h | h | h
            · exact decide_eq_true h
            · have := heq h.symm
              omega
            · have := anti h
              omega
          have b2 : (low == own) = false := by simp; omega
          have b3 : decide (low = own) = false := by simp; omega
          have b4 : decide (low ≤ low) = true := by simp
          rw [hm]
          clear anti anti2 heq hlt hm hr
          go_wp2_with fail
          refine (fixed_any w6).mono ?_
          rintro e w7 ⟨rfl, hb⟩
          replace HX := Aside0.mk (blk_below HX.out hb)
          replace HB := Aside0.mk (below_step HB.out hb)
          clear hb
          have x2 : w7.cell? ⟨n, 2, none⟩ = some (.int .i64 p2) := (blk_cell HX.out 2).trans rfl
          go_wp2_with fail
          go_ret
          exact ⟨by simp, HB.out⟩
        · have hm : mx own low = own := by unfold mx; rw [if_neg hlt]
          have b4 : decide (low ≤ own) = true := decide_eq_true (by omega)
          rw [hm]
          clear anti anti2 heq hlt hm hr
          by_cases hbc : base < c
          · have b1 : decide (base < c) = true := decide_eq_true hbc
            go_wp2_with fail
            refine (fixed_any w6).mono ?_
            rintro e w7 ⟨rfl, hb⟩
            replace HX := Aside0.mk (blk_below HX.out hb)
            replace HB := Aside0.mk (below_step HB.out hb)
            clear hb
            have x2 : w7.cell? ⟨n, 2, none⟩ = some (.int .i64 p2) := (blk_cell HX.out 2).trans rfl
            go_wp2_with fail
            go_ret
            exact ⟨by simp, HB.out⟩
          · have b1 : decide (base < c) = false := decide_eq_false hbc
            go_wp2_with fail
            refine (fixed_any w6).mono ?_
            rintro e w7 ⟨rfl, hb⟩
            replace HX := Aside0.mk (blk_below HX.out hb)
            replace HB := Aside0.mk (below_step HB.out hb)
            clear hb
            have x2 : w7.cell? ⟨n, 2, none⟩ = some (.int .i64 p2) := (blk_cell HX.out 2).trans rfl
            go_wp2_with fail
            go_ret
            exact ⟨by simp, HB.out⟩
end Go.Proofs.YtofmingbmcinhaaDoor.Gd
