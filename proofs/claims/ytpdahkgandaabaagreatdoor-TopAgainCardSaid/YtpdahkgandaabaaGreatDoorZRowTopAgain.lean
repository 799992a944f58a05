/- A channel that was lost is back at its sixteenth good tick, at the mean of the counts, as if it were new: the law TopAgain of the top returns true for every configuration, list of ticks and sixteen counts, where the package's tables hold what their initialisers lay (tied to the program's text), with no further condition. -/
import Derived.Test.YtpdahkgandaabaaGreatDoorCards
import Derived.Test.YtpdahkgandaabaaGreatDoorTie
import Derived.WalkKit
import Derived.ProofKit
import Derived.OpenShut
import Derived.ShutString
import Derived.ChangeOld
import Derived.Below
import Derived.SizedLaws
import Derived.Lib.SmallJoins
import Derived.WideKeyPair
import Derived.Deep.DeepHandedRow
import Derived.Lib.LaidTab
import Derived.Test.YtpdahkgandaabaaGreatDoorT01
import Derived.Test.YtpdahkgandaabaaGreatDoorT27
import Derived.Test.YtpdahkgandaabaaGreatDoorT28
namespace Go.Proofs.YtpdahkgandaabaaGreatDoor.topAgain
open Go.ChangeShapes Go.WideShapes Go.ChangeAt Go.RowKit Go.Proofs.YtpdahkgandaabaaGreatDoorW
set_option linter.unusedVariables false
theorem own : ownKnob Tryz.prog.godebug = none := by kernel_rfl
theorem laidOut : laidOutB Tryz.prog = true := by kernel_rfl
set_option maxRecDepth 100000 in
theorem contract (H : Type) (enc : TypeId × Value → H) (W : World) (base : Nat) (args : Array Value) (ds gs : List (DataW H)) (before : List MemPlace)
  (hval0 : ∀ (j : Nat) t v, Tryz.f4.params[j]? = some t → args[j]? = some v → Value.okWide Tryz.prog W .any base t v)
  (hW : DataW.Whole enc Tryz.prog Tryz.f4.params.toList Rows.topAgainSpec.vars false W args.toList ds gs before) (hL : laidMetH Tryz.prog Rows.topAgainRow.laid W) :
  Calls Tryz.prog 4 args W fun e W' => ∃ v, e = .returned v ∧ Rows.topAgainSpec.post enc Tryz.prog Tryz.f4 false true false false W args v W' := by
 have hval : ∀ (j : Nat) t v, Tryz.f4.params[j]? = some t → args[j]? = some v → Value.okWide Tryz.prog W .any base t v := hval0
 have hW' := hW
 obtain ⟨p, q, hA0, hV, rfl, hfz, hnd⟩ := hW
 have hA : DataW.TrodAll enc Tryz.prog W 0 (fun _ => true) true Tryz.f4.params.toList args.toList ds p := hA0
 rw [Tryz.params4] at hA hval
 obtain ⟨v0, vs0, d0, ds0, p0, q0, hargs, rfl, rfl, h0, r0⟩ := trodAll_cons hA
 obtain ⟨v1, vs1, d1, ds1, p1, q1, rfl, rfl, rfl, h1, r1⟩ := trodAll_cons r0
 obtain ⟨v2, vs2, d2, ds2, p2, q2, rfl, rfl, rfl, h2, r2⟩ := trodAll_cons r1
 obtain ⟨rfl, rfl, rfl⟩ := trodAll_nil r2
 obtain rfl : args = #[v0, v1, v2] := by cases args; simp_all
 obtain ⟨rfl, rfl⟩ := trodVars_none hV
 obtain ⟨C0, rfl, _⟩ := okWide_struct Tryz.underlying28 (hval 0 28 v0 rfl rfl)
 obtain ⟨a1, len1, cap1, rfl⟩ := okWide_slice Tryz.underlying29 (hval 1 29 v1 rfl rfl)
 have k0 := h0
 have k1 := h1
 have k2 := h2
 have lt0 : ∀ x ∈ p0, x.block < W.heap.size := by obtain ⟨m, hm⟩ := k0; exact DataW.trod_lt m _ _ _ hm
 have lt1 : ∀ x ∈ p1, x.block < W.heap.size := by obtain ⟨m, hm⟩ := k1; exact DataW.trod_lt m _ _ _ hm
 have lt2 : ∀ x ∈ p2, x.block < W.heap.size := by obtain ⟨m, hm⟩ := k2; exact DataW.trod_lt m _ _ _ hm
 obtain ⟨c, hc⟩ : ∃ c : Ch.Cf, C0.toList = c.v.toList := by
  obtain ⟨fuel, hf⟩ := h0
  exact Ch.conf_of (by simpa [Value.cells] using hf)
 obtain rfl : C0 = c.v := Array.toList_inj.1 hc
 obtain ⟨l1, hr1⟩ : ∃ l : List Ch.T4, PrintWords.ReadsRow (fun t c => c = Ch.cellsT t) 4 W a1 len1 l := by
  obtain ⟨fuel, hf⟩ := h1
  exact Ch.open_ticks (by simpa [Value.cells] using hf)
 obtain ⟨C2, rfl⟩ := Ch.okWide_sixteen (hval 2 30 v2 rfl rfl)
 obtain ⟨cn, hcn⟩ : ∃ cn : Nat → Int, C2.toList = [.int .i64 (cn 0), .int .i64 (cn 1), .int .i64 (cn 2), .int .i64 (cn 3), .int .i64 (cn 4), .int .i64 (cn 5), .int .i64 (cn 6), .int .i64 (cn 7), .int .i64 (cn 8), .int .i64 (cn 9), .int .i64 (cn 10), .int .i64 (cn 11), .int .i64 (cn 12), .int .i64 (cn 13), .int .i64 (cn 14), .int .i64 (cn 15)] := by
  obtain ⟨fuel, hf⟩ := h2
  exact Ch.sixteen_of (by simpa [Value.cells] using hf)
 obtain rfl : C2 = #[.int .i64 (cn 0), .int .i64 (cn 1), .int .i64 (cn 2), .int .i64 (cn 3), .int .i64 (cn 4), .int .i64 (cn 5), .int .i64 (cn 6), .int .i64 (cn 7), .int .i64 (cn 8), .int .i64 (cn 9), .int .i64 (cn 10), .int .i64 (cn 11), .int .i64 (cn 12), .int .i64 (cn 13), .int .i64 (cn 14), .int .i64 (cn 15)] := Array.toList_inj.1 hcn
 clear hA0 hval0
 refine (Ch.again_any W (Ch.laid_G hL) c a1 len1 cap1 l1 hr1 cn).mono fun e W' ⟨he, bel⟩ => ?_
 subst he
 exact ⟨_, rfl, _, _, _, [], _, [], hW', trodAll_mk1 (shut_bool Tryz.underlying4 _), (trodAll_cons_mk (Below.trod laidOut (by kernel_rfl) (of_decide_eq_true (by kernel_rfl)) k0 bel lt0) (trodAll_cons_mk (Below.trod laidOut (by kernel_rfl) (of_decide_eq_true (by kernel_rfl)) k1 bel lt1) (trodAll_cons_mk (Below.trod laidOut (by kernel_rfl) (of_decide_eq_true (by kernel_rfl)) k2 bel lt2) trodAll_mk0))), rfl, bel.frame _, fun h => by cases h⟩
noncomputable def laidWorld (os : Os) : World :=
 { World.holding Tryz.prog os ⟨#[], #[], []⟩ with heap := ((((((World.holding Tryz.prog os ⟨#[], #[], []⟩).heap.modify 0 fun
   | .cells _ t frozen => .cells #[.int .i64 430515, .int .i64 417754, .int .i64 405300, .int .i64 393149, .int .i64 381294, .int .i64 369731, .int .i64 358453, .int .i64 347455, .int .i64 336732, .int .i64 326279, .int .i64 316090, .int .i64 306161, .int .i64 296485, .int .i64 287058, .int .i64 277876, .int .i64 268933, .int .i64 260224, .int .i64 251746, .int .i64 243492, .int .i64 235459, .int .i64 227641, .int .i64 220036, .int .i64 212637, .int .i64 205441, .int .i64 198444, .int .i64 191640, .int .i64 185027, .int .i64 178600, .int .i64 172355, .int .i64 166288, .int .i64 160395, .int .i64 154672, .int .i64 149116, .int .i64 143723, .int .i64 138488, .int .i64 133409, .int .i64 128482, .int .i64 123703, .int .i64 119069, .int .i64 114577, .int .i64 110223, .int .i64 106004, .int .i64 101917, .int .i64 97958, .int .i64 94125, .int .i64 90414, .int .i64 86822] t frozen
   | o => o).modify 1 fun
   | .cells _ t frozen => .cells #[(), .int .u64 0] t frozen
   | o => o).modify 2 fun
   | .cells _ t frozen => .cells #[.int .i64 32768, .int .i64 256, .int .i64 (-1), (), .int .i64 32768, .int .i64 (-256), (), (), .int .i64 32768] t frozen
   | o => o).modify 3 fun
   | .cells _ t frozen => .cells #[(), .int .i64 1, .int .i64 2, .int .i64 1, .int .i64 3, .int .i64 4, .int .i64 2, .int .i64 4, .int .i64 5] t frozen
   | o => o).modify 4 fun
   | .cells _ t frozen => .cells #[.int .i64 (-9223372036854775808), .int .u64 0] t frozen
   | o => o) }
theorem laid_met (os : Os) : laidMet Tryz.prog Rows.topAgainRow.laid ((laidWorld os).forCall (fun _ _ => 0) ⟨#[], #[.agg #[(), (), (), (), (), (), (), (), (), (), (), (), (), (), (), (), (), (), (), (), (), (), (), (), (), (), (), (), (), (), ()], .slice none 0 0, .agg #[(), (), (), (), (), (), (), (), (), (), (), (), (), (), (), ()]], []⟩).memory :=
 laidMet_of_run' 8 (by kernel_rfl) (by kernel_rfl)
theorem reads (os : Os) {H : Type} (enc : TypeId × Value → H) : ∃ places, DataW.whole enc Tryz.prog ((laidWorld os).forCall (fun _ _ => 0) ⟨#[], #[.agg #[(), (), (), (), (), (), (), (), (), (), (), (), (), (), (), (), (), (), (), (), (), (), (), (), (), (), (), (), (), (), ()], .slice none 0 0, .agg #[(), (), (), (), (), (), (), (), (), (), (), (), (), (), (), ()]], []⟩).memory Tryz.f4.params.toList Rows.topAgainSpec.vars false (#[.agg #[(), (), (), (), (), (), (), (), (), (), (), (), (), (), (), (), (), (), (), (), (), (), (), (), (), (), (), (), (), (), ()], .slice none 0 0, .agg #[(), (), (), (), (), (), (), (), (), (), (), (), (), (), (), ()]] : Array Value).toList 8 = some ([.agg [.agg [.lit (.int .i64 0), .lit (.int .i64 0), .lit (.int .i64 0)], .agg [.lit (.int .i64 0), .lit (.int .i64 0), .lit (.int .i64 0)], .lit (.int .i64 0), .lit (.int .i64 0), .agg [.lit (.int .i64 0), .lit (.int .i64 0), .lit (.int .i64 0)], .agg [.lit (.int .i64 0), .lit (.int .i64 0), .lit (.int .i64 0)], .agg [.lit (.int .i64 0), .lit (.int .i64 0), .lit (.int .i64 0)], .agg [.lit (.int .i64 0), .lit (.int .i64 0), .lit (.int .i64 0)], .lit (.int .i64 0), .agg [.lit (.int .i64 0), .lit (.int .i64 0), .lit (.int .i64 0)], .lit (.int .i64 0), .lit (.int .i64 0), .lit (.int .i64 0), .lit (.int .i64 0), .lit (.int .i64 0), .lit (.int .i64 0), .lit (.int .i64 0)], .nil, .agg [.lit (.int .i64 0), .lit (.int .i64 0), .lit (.int .i64 0), .lit (.int .i64 0), .lit (.int .i64 0), .lit (.int .i64 0), .lit (.int .i64 0), .lit (.int .i64 0), .lit (.int .i64 0), .lit (.int .i64 0), .lit (.int .i64 0), .lit (.int .i64 0), .lit (.int .i64 0), .lit (.int .i64 0), .lit (.int .i64 0), .lit (.int .i64 0)]], [], places) :=
 ⟨[], by kernel_rfl⟩
set_option maxRecDepth 100000 in
theorem lifted (os : Os) (started : os.Started) (H : Type) (enc : TypeId × Value → H) (F : Stop.Interp) :
  ReturnsInHanded {} Tryz.checked os 4 .any ((OpenSpec.ofChange Rows.topAgainSpec).preRow enc Tryz.prog Tryz.f4 Rows.topAgainRow.domain false Rows.topAgainRow.laid) (((OpenSpec.ofChange Rows.topAgainSpec).at F).post enc Tryz.prog Tryz.f4 false true false false) := by
 obtain ⟨places, hx⟩ := reads os enc
 refine returnsInHanded_of_row (C := Tryz.checked) (s := OpenSpec.ofChange Rows.topAgainSpec) own started (by kernel_rfl) Tryz.func4
  (witness_row_at (enc := enc) (C := Tryz.checked) false (laidWorld os) #[.agg #[(), (), (), (), (), (), (), (), (), (), (), (), (), (), (), (), (), (), (), (), (), (), (), (), (), (), (), (), (), (), ()], .slice none 0 0, .agg #[(), (), (), (), (), (), (), (), (), (), (), (), (), (), (), ()]] rfl (by kernel_rfl) (by kernel_rfl) (by kernel_rfl)
   (OpenSpec.preRow_of_cond 8 hx (by kernel_rfl) (fun k hk => by cases hk) (by kernel_rfl) (laid_met os))) ?_
 intro W base args ds gs before hval hW _ _ _ hL _ _
 exact contract H enc W base args ds gs before hval hW hL
theorem said : Rows.TopAgainSaid :=
 OpenClaim.holds_of_cond 4 Tryz.f4 rfl rfl rfl rfl rfl rfl rfl ⟨rfl, rfl, rfl, rfl, rfl⟩ rfl rfl rfl rfl rfl (by kernel_rfl) Tryz.func4 (by kernel_rfl)
  (of_decide_eq_true (by kernel_rfl)) (by unfold Func.isWrapper; first | (rw [if_pos (by decide +kernel)]; kernel_rfl) | (rw [if_neg (by decide +kernel)]; exact ⟨rfl, rfl⟩))
  (fun os started H enc _ F => by rw [OpenClaim.pre_eq_preRow]; exact lifted os started H enc F)
theorem plain (f : FuncId) (fn : Func) (hf : Tryz.pinned.checked.prog.funcNamed "aneroid/aneroidtop.TopAgain" = some f) (hfn : Tryz.pinned.checked.prog.funcs[f]? = some fn) :
  false = Tryz.pinned.checked.prog.looks [] ∧ ∀ (j : Nat) t, fn.params[j]? = some t → Tryz.pinned.checked.prog.wantsStandIn t = false := by
 obtain rfl : f = 4 := Option.some.inj ((show Tryz.prog.funcNamed "aneroid/aneroidtop.TopAgain" = some 4 by kernel_rfl).symm.trans hf) |>.symm
 obtain rfl : fn = Tryz.f4 := (Option.some.inj (Tryz.func4.symm.trans hfn)).symm
 refine ⟨by kernel_rfl, fun j t ht => ?_⟩
 rw [Tryz.params4] at ht
 have hm : t ∈ [28, 29, 30] := by simpa using Array.mem_of_getElem? ht
 have hall : ([28, 29, 30].all fun u => !Tryz.prog.wantsStandIn u) = true := by kernel_rfl
 exact (show Tryz.prog.wantsStandIn t = false by simpa using List.all_eq_true.1 hall t hm)
theorem card : Rows.TopAgainCardSaid :=
 Claim7.holds_tied_plain_at .later [] _ _ _ _ said (fun _ h => by cases h) (by kernel_rfl) (fun _ h => by cases h) topAgain_row_tie rfl ⟨rfl, rfl⟩ (by kernel_rfl) rfl plain (by kernel_rfl)
#print axioms card
end Go.Proofs.YtpdahkgandaabaaGreatDoor.topAgain
namespace Go.Proofs.YtpdahkgandaabaaGreatDoor
theorem topAgain_holds : Rows.TopAgainCardSaid := topAgain.card
end Go.Proofs.YtpdahkgandaabaaGreatDoor
