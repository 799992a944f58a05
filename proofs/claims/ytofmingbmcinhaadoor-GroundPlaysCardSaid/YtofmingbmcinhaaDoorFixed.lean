/- Layer 18: the walk of the chapter's example. -/
import Derived.Test.YtofmingbmcinhaaDoorGround
import Derived.Deep.QuietTactic
import Derived.BigQuiet
namespace Go.Proofs.YtofmingbmcinhaaDoor.Gd
open Go.RowKit Go.Proofs.YtofmingbmcinhaaDoorW.PrintWords Go.Proofs.YtofmingbmcinhaaDoorW.PrintLast Go.Proofs.YtofmingbmcinhaaDoorW.PrintMore Go.Proofs.YtofmingbmcinhaaDoor.PGroundPlays
set_option linter.unusedVariables false
set_option linter.unusedSimpArgs false

theorem near_a : near (mx 240 0) 0 false 400000 = false := by decide
theorem near_b : near (mx 240 0) 400000 true 399760 = true := by decide +kernel
theorem near_c : near (mx 240 0) 400000 true 399759 = false := by decide +kernel
theorem good_a : good 400000 = true := by decide

set_option maxRecDepth 100000 in
set_option maxHeartbeats 4000000 in
theorem fixed_any (w : World) : Calls Tryd.prog 5 #[] w fun e w' => e = .returned (.bool true) ∧ Below w.heap.size w w' := by
  go_enter Tryd.func5, Tryd.ntmps5
  go_wp2_with fail
  refine (ground_New.calls 240 1 2 (mx 240 0) 1 2 0 false w w (Below.refl _ _) rfl).mono ?_
  rintro e w1 ⟨g, rfl, hI, hB, _⟩
  have HI := Aside0.mk hI
  have HB := Aside0.mk hB
  clear hI hB
  go_wp2_with fail
  refine (near_any w w1 g _ _ _ _ _ _ HI.out).mono ?_
  rintro e w2 ⟨rfl, hb⟩
  rw [near_a]
  replace HI := Aside0.mk (HI.out.below hb)
  replace HB := Aside0.mk (below_step HB.out hb)
  clear hb
  go_wp2_with fail
  refine (set_any w w2 g _ _ _ _ _ _ HI.out HB.out).mono ?_
  rintro e w3 ⟨rfl, hI, hB, _⟩
  rw [good_a]
  rw [good_a] at hI
  replace HI := Aside0.mk (show IsS47 w w3 g (mx 240 0) 1 2 400000 true from hI)
  replace HB := Aside0.mk hB
  clear hI hB
  go_wp2_with fail
  refine (near_any w w3 g _ _ _ _ _ _ HI.out).mono ?_
  rintro e w4 ⟨rfl, hb⟩
  rw [near_b]
  replace HI := Aside0.mk (HI.out.below hb)
  replace HB := Aside0.mk (below_step HB.out hb)
  clear hb
  go_wp2_with fail
  refine (near_any w w4 g _ _ _ _ _ _ HI.out).mono ?_
  rintro e w5 ⟨rfl, hb⟩
  rw [near_c]
  go_wp2_with fail
  go_ret
  exact ⟨rfl, below_step HB.out hb⟩
end Go.Proofs.YtofmingbmcinhaaDoor.Gd
