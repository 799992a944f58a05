/- A part of the proof of TopAgain, where the package's tables hold what their initialisers lay. -/
import Derived.Test.YtpdahkgandaabaaGreatDoorRows
import Derived.Deep.Slices
import Derived.Deep.Fields
import Derived.Lib.SmallJoins
import Derived.Lib.LaidTab
import Derived.Laws.IdiomArrays
import Derived.ProofKit
import Derived.OpenShut
import Derived.Test.YtpdahkgandaabaaGreatDoorT01
import Derived.Test.YtpdahkgandaabaaGreatDoorT03
import Derived.Test.YtpdahkgandaabaaGreatDoorT20
namespace Go.Proofs.YtpdahkgandaabaaGreatDoor.Ch
open Go.RowKit Go.ChangeShapes Go.WideShapes Go.Deep Go.Joins Go.Proofs.YtpdahkgandaabaaGreatDoorW.PrintWords Go.Proofs.YtpdahkgandaabaaGreatDoor.Al
set_option linter.unusedVariables false
theorem cells26 : Tryz.prog.cellsOf 26 = 3 := by kernel_rfl
theorem cells28 : Tryz.prog.cellsOf 28 = 31 := by kernel_rfl
theorem cells2 : Tryz.prog.cellsOf 2 = 1 := by kernel_rfl
theorem cells4 : Tryz.prog.cellsOf 4 = 1 := by kernel_rfl
theorem cells37 : Tryz.prog.cellsOf 37 = 4 := by kernel_rfl
theorem list31 {α : Type} (l : List α) (h : l.length = 31) : ∃ c0' c1' c2' c3' c4' c5' c6' c7' c8' c9' c10' c11' c12' c13' c14' c15' c16' c17' c18' c19' c20' c21' c22' c23' c24' c25' c26' c27' c28' c29' c30' : α, l = [c0', c1', c2', c3', c4', c5', c6', c7', c8', c9', c10', c11', c12', c13', c14', c15', c16', c17', c18', c19', c20', c21', c22', c23', c24', c25', c26', c27', c28', c29', c30'] := by
 match l, h with
 | [c0', c1', c2', c3', c4', c5', c6', c7', c8', c9', c10', c11', c12', c13', c14', c15', c16', c17', c18', c19', c20', c21', c22', c23', c24', c25', c26', c27', c28', c29', c30'], _ => exact ⟨c0', c1', c2', c3', c4', c5', c6', c7', c8', c9', c10', c11', c12', c13', c14', c15', c16', c17', c18', c19', c20', c21', c22', c23', c24', c25', c26', c27', c28', c29', c30', rfl⟩
theorem list2 {α : Type} (l : List α) (h : l.length = 2) : ∃ a b : α, l = [a, b] := by
 match l, h with
 | [a, b], _ => exact ⟨a, b, rfl⟩
theorem list4 {α : Type} (l : List α) (h : l.length = 4) : ∃ a b c d : α, l = [a, b, c, d] := by
 match l, h with
 | [a, b, c, d], _ => exact ⟨a, b, c, d, rfl⟩
theorem list9 {α : Type} (l : List α) (h : l.length = 9) : l = l.take 3 ++ (l.drop 3).take 3 ++ (l.drop 6).take 3 := by
 match l, h with
 | [a, b, c, d, e, f, g, i, j], _ => rfl
section
variable {H : Type} {enc : TypeId × Value → H} {w : World} {base fuel : Nat} {spare : Nat → Bool} {held : Bool}
theorem vec_of {a b c : Value} {x : DataW H × List MemPlace} (h : DataW.trod enc Tryz.prog w base spare held fuel 26 [a, b, c] = some x) : ∃ i j k : Int, a = .int .i64 i ∧ b = .int .i64 j ∧ c = .int .i64 k := by
 obtain ⟨y0, y1, y2, n, _, h0, h1, h2⟩ := trod_array3 Tryz.underlying26 cells2 h
 obtain ⟨v0, g0, _⟩ := DataW.trod_int Tryz.underlying2 h0
 obtain ⟨v1, g1, _⟩ := DataW.trod_int Tryz.underlying2 h1
 obtain ⟨v2, g2, _⟩ := DataW.trod_int Tryz.underlying2 h2
 simp at g0 g1 g2
 exact ⟨v0, v1, v2, g0, g1, g2⟩
theorem num_of {a : Value} {x : DataW H × List MemPlace} (h : DataW.trod enc Tryz.prog w base spare held fuel 2 [a] = some x) : ∃ i : Int, a = .int .i64 i := by
 obtain ⟨v0, g0, _⟩ := DataW.trod_int Tryz.underlying2 h
 simp at g0
 exact ⟨v0, g0⟩
set_option maxRecDepth 100000 in
set_option maxHeartbeats 4000000 in
theorem conf_of {C : List Value} {x : DataW H × List MemPlace} (h : DataW.trod enc Tryz.prog w base spare held fuel 28 C = some x) : ∃ c : Cf, C = c.v.toList := by
 obtain ⟨xs, n, _, _, hl, hlen, hf⟩ := DataW.trod_struct Tryz.underlying28 h
 rw [cells28] at hl
 obtain ⟨c0', c1', c2', c3', c4', c5', c6', c7', c8', c9', c10', c11', c12', c13', c14', c15', c16', c17', c18', c19', c20', c21', c22', c23', c24', c25', c26', c27', c28', c29', c30', rfl⟩ := list31 C hl
 have hn : xs.length = 17 := hlen
 clear hlen hl h
 have e0 := (hf 0 _ rfl).trans (List.getElem?_eq_getElem (show 0 < xs.length by omega))
 change DataW.trod enc Tryz.prog w base spare held n 26 (List.take (Tryz.prog.cellsOf 26) _) = _ at e0
 rw [cells26] at e0
 change DataW.trod enc Tryz.prog w base spare held n 26 [c0', c1', c2'] = _ at e0
 obtain ⟨q0, q1, q2, rfl, rfl, rfl⟩ := vec_of e0
 have e1 := (hf 1 _ rfl).trans (List.getElem?_eq_getElem (show 1 < xs.length by omega))
 change DataW.trod enc Tryz.prog w base spare held n 26 (List.take (Tryz.prog.cellsOf 26) _) = _ at e1
 rw [cells26] at e1
 change DataW.trod enc Tryz.prog w base spare held n 26 [c3', c4', c5'] = _ at e1
 obtain ⟨l0, l1, l2, rfl, rfl, rfl⟩ := vec_of e1
 have e2 := (hf 2 _ rfl).trans (List.getElem?_eq_getElem (show 2 < xs.length by omega))
 change DataW.trod enc Tryz.prog w base spare held n 2 (List.take (Tryz.prog.cellsOf 2) _) = _ at e2
 rw [cells2] at e2
 change DataW.trod enc Tryz.prog w base spare held n 2 [c6'] = _ at e2
 obtain ⟨r, rfl⟩ := num_of e2
 have e3 := (hf 3 _ rfl).trans (List.getElem?_eq_getElem (show 3 < xs.length by omega))
 change DataW.trod enc Tryz.prog w base spare held n 2 (List.take (Tryz.prog.cellsOf 2) _) = _ at e3
 rw [cells2] at e3
 change DataW.trod enc Tryz.prog w base spare held n 2 [c7'] = _ at e3
 obtain ⟨rg, rfl⟩ := num_of e3
 have e4 := (hf 4 _ rfl).trans (List.getElem?_eq_getElem (show 4 < xs.length by omega))
 change DataW.trod enc Tryz.prog w base spare held n 26 (List.take (Tryz.prog.cellsOf 26) _) = _ at e4
 rw [cells26] at e4
 change DataW.trod enc Tryz.prog w base spare held n 26 [c8', c9', c10'] = _ at e4
 obtain ⟨s0, s1, s2, rfl, rfl, rfl⟩ := vec_of e4
 have e5 := (hf 5 _ rfl).trans (List.getElem?_eq_getElem (show 5 < xs.length by omega))
 change DataW.trod enc Tryz.prog w base spare held n 26 (List.take (Tryz.prog.cellsOf 26) _) = _ at e5
 rw [cells26] at e5
 change DataW.trod enc Tryz.prog w base spare held n 26 [c11', c12', c13'] = _ at e5
 obtain ⟨f0, f1, f2, rfl, rfl, rfl⟩ := vec_of e5
 have e6 := (hf 6 _ rfl).trans (List.getElem?_eq_getElem (show 6 < xs.length by omega))
 change DataW.trod enc Tryz.prog w base spare held n 26 (List.take (Tryz.prog.cellsOf 26) _) = _ at e6
 rw [cells26] at e6
 change DataW.trod enc Tryz.prog w base spare held n 26 [c14', c15', c16'] = _ at e6
 obtain ⟨c0, c1, c2, rfl, rfl, rfl⟩ := vec_of e6
 have e7 := (hf 7 _ rfl).trans (List.getElem?_eq_getElem (show 7 < xs.length by omega))
 change DataW.trod enc Tryz.prog w base spare held n 26 (List.take (Tryz.prog.cellsOf 26) _) = _ at e7
 rw [cells26] at e7
 change DataW.trod enc Tryz.prog w base spare held n 26 [c17', c18', c19'] = _ at e7
 obtain ⟨b0, b1, b2, rfl, rfl, rfl⟩ := vec_of e7
 have e8 := (hf 8 _ rfl).trans (List.getElem?_eq_getElem (show 8 < xs.length by omega))
 change DataW.trod enc Tryz.prog w base spare held n 2 (List.take (Tryz.prog.cellsOf 2) _) = _ at e8
 rw [cells2] at e8
 change DataW.trod enc Tryz.prog w base spare held n 2 [c20'] = _ at e8
 obtain ⟨g, rfl⟩ := num_of e8
 have e9 := (hf 9 _ rfl).trans (List.getElem?_eq_getElem (show 9 < xs.length by omega))
 change DataW.trod enc Tryz.prog w base spare held n 26 (List.take (Tryz.prog.cellsOf 26) _) = _ at e9
 rw [cells26] at e9
 change DataW.trod enc Tryz.prog w base spare held n 26 [c21', c22', c23'] = _ at e9
 obtain ⟨t0, t1, t2, rfl, rfl, rfl⟩ := vec_of e9
 have e10 := (hf 10 _ rfl).trans (List.getElem?_eq_getElem (show 10 < xs.length by omega))
 change DataW.trod enc Tryz.prog w base spare held n 2 (List.take (Tryz.prog.cellsOf 2) _) = _ at e10
 rw [cells2] at e10
 change DataW.trod enc Tryz.prog w base spare held n 2 [c24'] = _ at e10
 obtain ⟨sc, rfl⟩ := num_of e10
 have e11 := (hf 11 _ rfl).trans (List.getElem?_eq_getElem (show 11 < xs.length by omega))
 change DataW.trod enc Tryz.prog w base spare held n 2 (List.take (Tryz.prog.cellsOf 2) _) = _ at e11
 rw [cells2] at e11
 change DataW.trod enc Tryz.prog w base spare held n 2 [c25'] = _ at e11
 obtain ⟨rest, rfl⟩ := num_of e11
 have e12 := (hf 12 _ rfl).trans (List.getElem?_eq_getElem (show 12 < xs.length by omega))
 change DataW.trod enc Tryz.prog w base spare held n 2 (List.take (Tryz.prog.cellsOf 2) _) = _ at e12
 rw [cells2] at e12
 change DataW.trod enc Tryz.prog w base spare held n 2 [c26'] = _ at e12
 obtain ⟨clip, rfl⟩ := num_of e12
 have e13 := (hf 13 _ rfl).trans (List.getElem?_eq_getElem (show 13 < xs.length by omega))
 change DataW.trod enc Tryz.prog w base spare held n 2 (List.take (Tryz.prog.cellsOf 2) _) = _ at e13
 rw [cells2] at e13
 change DataW.trod enc Tryz.prog w base spare held n 2 [c27'] = _ at e13
 obtain ⟨hold, rfl⟩ := num_of e13
 have e14 := (hf 14 _ rfl).trans (List.getElem?_eq_getElem (show 14 < xs.length by omega))
 change DataW.trod enc Tryz.prog w base spare held n 2 (List.take (Tryz.prog.cellsOf 2) _) = _ at e14
 rw [cells2] at e14
 change DataW.trod enc Tryz.prog w base spare held n 2 [c28'] = _ at e14
 obtain ⟨coast, rfl⟩ := num_of e14
 have e15 := (hf 15 _ rfl).trans (List.getElem?_eq_getElem (show 15 < xs.length by omega))
 change DataW.trod enc Tryz.prog w base spare held n 2 (List.take (Tryz.prog.cellsOf 2) _) = _ at e15
 rw [cells2] at e15
 change DataW.trod enc Tryz.prog w base spare held n 2 [c29'] = _ at e15
 obtain ⟨out, rfl⟩ := num_of e15
 have e16 := (hf 16 _ rfl).trans (List.getElem?_eq_getElem (show 16 < xs.length by omega))
 change DataW.trod enc Tryz.prog w base spare held n 2 (List.take (Tryz.prog.cellsOf 2) _) = _ at e16
 rw [cells2] at e16
 change DataW.trod enc Tryz.prog w base spare held n 2 [c30'] = _ at e16
 obtain ⟨band, rfl⟩ := num_of e16
 exact ⟨⟨q0, q1, q2, l0, l1, l2, r, rg, s0, s1, s2, f0, f1, f2, c0, c1, c2, b0, b1, b2, g, t0, t1, t2, sc, rest, clip, hold, coast, out, band⟩, rfl⟩
theorem tick_of {cs : List Value} {x : DataW H × List MemPlace} (h : DataW.trod enc Tryz.prog w base spare held fuel 37 cs = some x) : ∃ t : T4, cs = cellsT t := by
 obtain ⟨y0, y1, y2, y3, n, _, hl, h0, h1, h2, h3⟩ := trod_struct4 Tryz.underlying37 h
 rw [cells37] at hl
 obtain ⟨a, b, c, d, rfl⟩ := list4 cs hl
 simp only [cells2, cells4] at h0 h1 h2 h3
 obtain ⟨v0, g0, _⟩ := DataW.trod_int Tryz.underlying2 h0
 obtain ⟨v1, g1, _⟩ := DataW.trod_bool Tryz.underlying4 h1
 obtain ⟨v2, g2, _⟩ := DataW.trod_int Tryz.underlying2 h2
 obtain ⟨v3, g3, _⟩ := DataW.trod_bool Tryz.underlying4 h3
 simp at g0 g1 g2 g3
 subst g0 g1 g2 g3
 exact ⟨(v0, v1, v2, v3), rfl⟩
theorem open_ticks {a : Option Addr} {len cap : Nat} {x : DataW H × List MemPlace} (h : DataW.trod enc Tryz.prog w base spare held fuel 29 [.slice a len cap] = some x) : ∃ l : List T4, ReadsRow (fun t c => c = cellsT t) 4 w a len l := by
 rcases open_slice Tryz.underlying29 h with ⟨hcs, _⟩ | ⟨ad, len', cap', m, n, D, Pl, hcs, _, hl, hm, hmm, _, hi⟩
 ·
  simp at hcs
  obtain ⟨rfl, rfl, rfl⟩ := hcs
  exact ⟨[], rfl, by omega, fun h => by omega⟩
 simp at hcs
 obtain ⟨rfl, rfl, rfl⟩ := hcs
 have hlm : len ≤ m := by rw [hmm]; split <;> omega
 rw [cells37] at hi
 have hex : ∀ i : Nat, ∃ t : T4, i < len → ∀ j u, (cellsT t)[j]? = some u → w.cell? (ad.add (i * 4 + j)) = some u := by
  intro i
  by_cases hil : i < len
  ·
   obtain ⟨cs', hc, ht⟩ := hi i (by omega)
   obtain ⟨t, rfl⟩ := tick_of ht
   obtain ⟨_, hcl, hat⟩ := World.cells?_some hc
   refine ⟨t, fun _ j u hu => ?_⟩
   have hj : j < 4 := (List.getElem?_eq_some_iff.1 hu).1
   have := hat j hj
   rw [Go.Deep.add_add] at this
   exact this.trans hu
  exact ⟨(0, false, 0, false), fun h => absurd h hil⟩
 obtain ⟨f, hf⟩ := Classical.axiomOfChoice hex
 unfold maxLen at hm
 refine ⟨(List.range len).map f, by simp, by omega, fun _ => ⟨ad, rfl, fun j p hp => ?_⟩⟩
 have hj : j < len := by have := (List.getElem?_eq_some_iff.1 hp).1; simpa using this
 have e : p = f j := by
  simp [hj] at hp
  exact hp.symm
 subst e
 exact ⟨cellsT (f j), rfl, rfl, hf j hj⟩
end
theorem vars_tail {P : Program} {W : World} {x : String × DataW Unit} {rest : List (String × DataW Unit)} {ps : List MemPlace} (h : DataW.LaidVars P W (x :: rest) ps) : ∃ q, DataW.LaidVars P W rest q := by
 obtain ⟨g', t', cs, fuel, p, q, hg', ht', hvar, hd, hq, hr⟩ := h
 exact ⟨q, hq⟩
theorem tab_of_vars {P : Program} {W : World} {name : String} {k : IntKind} {zs : List Int} {rest : List (String × DataW Unit)} {g : Nat} {t e : TypeId} {n : Nat} {ps : List MemPlace}
  (hg : P.globalNamed name = some g) (hty : (P.globals[g]?).map (·.type) = some t) (ht : P.underlying t = some (.array n e)) (he : P.underlying e = some (.int k)) (hce : P.cellsOf e = 1) (hct : P.cellsOf t = n)
  (h : DataW.LaidVars P W ((name, Lib.tabData k zs) :: rest) ps) : Lib.TabIs P W name k zs := by
 obtain ⟨g', t', cs, fuel, p, q, hg', ht', hvar, hd, _, _⟩ := h
 obtain rfl := Option.some.inj (hg.symm.trans hg')
 obtain rfl := Option.some.inj (hty.symm.trans ht')
 unfold Lib.TabIs
 rw [hvar, ← Lib.cells_of_tab ht he hce hct hd]
theorem cells124 : Tryz.prog.cellsOf 124 = 2 := by kernel_rfl
theorem cells122 : Tryz.prog.cellsOf 122 = 1 := by kernel_rfl
theorem wide_of_vars {W : World} {name : String} {g : Nat} {a b : Int} {rest : List (String × DataW Unit)} {ps : List MemPlace} (hg : Tryz.prog.globalNamed name = some g) (hty : (Tryz.prog.globals[g]?).map (·.type) = some 124)
  (h : DataW.LaidVars Tryz.prog W ((name, .agg [.lit (.int .i64 a), .lit (.int .u64 b)]) :: rest) ps) : W.cell? ⟨g, 0, none⟩ = some (.int .i64 a) ∧ W.cell? ⟨g, 1, none⟩ = some (.int .u64 b) := by
 obtain ⟨g', t', cs, fuel, p, q, hg', ht', hvar, hd, _, _⟩ := h
 obtain rfl := Option.some.inj (hg.symm.trans hg')
 obtain rfl := Option.some.inj (hty.symm.trans ht')
 obtain ⟨cs⟩ := cs
 obtain ⟨y0, y1, n, hx, hl, h0, h1⟩ := trod_struct2 Tryz.underlying124 hd
 rw [cells124] at hl
 simp only at hl h0 h1
 obtain ⟨c0, c1, rfl⟩ := list2 cs hl
 simp only [cells2, cells122] at h0 h1
 obtain ⟨v0, g0, e0, _⟩ := DataW.trod_int Tryz.underlying2 h0
 obtain ⟨v1, g1, e1, _⟩ := DataW.trod_int Tryz.underlying122 h1
 simp at g0 g1
 subst g0 g1 e0 e1
 simp at hx
 obtain ⟨⟨rfl, rfl⟩, _⟩ := hx
 exact ⟨(World.var?_cell hg hvar 0).trans rfl, (World.var?_cell hg hvar 1).trans rfl⟩
theorem nine_of_vars {P : Program} {W : World} {name : String} {g : Nat} {t e i : TypeId} {k : IntKind} {r0 r1 r2 : List Int} {rest : List (String × DataW Unit)} {ps : List MemPlace} (hg : P.globalNamed name = some g) (hty : (P.globals[g]?).map (·.type) = some t)
  (ht : P.underlying t = some (.array 3 e)) (he : P.underlying e = some (.array 3 i)) (hi : P.underlying i = some (.int k)) (hct : P.cellsOf t = 9) (hce : P.cellsOf e = 3) (hci : P.cellsOf i = 1)
  (h : DataW.LaidVars P W ((name, .agg [Lib.tabData k r0, Lib.tabData k r1, Lib.tabData k r2]) :: rest) ps) : W.var? P name = some ((r0 ++ r1 ++ r2).map fun z => Value.int k z).toArray := by
 obtain ⟨g', t', cs, fuel, p, q, hg', ht', hvar, hd, _, _⟩ := h
 obtain rfl := Option.some.inj (hg.symm.trans hg')
 obtain rfl := Option.some.inj (hty.symm.trans ht')
 obtain ⟨cs⟩ := cs
 cases fuel with
 | zero => simp [DataW.trod] at hd
 | succ n =>
  unfold DataW.trod at hd
  rw [ht] at hd
  have q3 : List.range 3 = [0, 1, 2] := rfl
  simp only [q3, hce, List.mapM_cons, List.mapM_nil] at hd
  split at hd
  ·
   rename_i hl
   cases h0 : DataW.trod (fun _ => ()) P W 0 (fun _ => true) false n e (List.take 3 cs) with
   | none => simp [h0] at hd
   | some y0 =>
    cases h1 : DataW.trod (fun _ => ()) P W 0 (fun _ => true) false n e (List.take 3 (List.drop 3 cs)) with
    | none => simp [h0, h1] at hd
    | some y1 =>
     cases h2 : DataW.trod (fun _ => ()) P W 0 (fun _ => true) false n e (List.take 3 (List.drop 6 cs)) with
     | none => simp [h0, h1, h2] at hd
     | some y2 =>
      simp [h0, h1, h2] at hd
      obtain ⟨⟨e0, e1, e2⟩, _⟩ := hd
      have z0 := Lib.cells_of_tab he hi hci hce (h0.trans (congrArg some (show y0 = (Lib.tabData k r0, y0.2) from Prod.ext e0 rfl)))
      have z1 := Lib.cells_of_tab he hi hci hce (h1.trans (congrArg some (show y1 = (Lib.tabData k r1, y1.2) from Prod.ext e1 rfl)))
      have z2 := Lib.cells_of_tab he hi hci hce (h2.trans (congrArg some (show y2 = (Lib.tabData k r2, y2.2) from Prod.ext e2 rfl)))
      have hl9 : cs.length = 9 := by rw [hct] at hl; exact hl
      have hcs : cs = (r0 ++ r1 ++ r2).map fun z => Value.int k z := by
       rw [List.map_append, List.map_append, ← z0, ← z1, ← z2]
       exact list9 cs hl9
      rw [hvar, hcs]
  simp at hd
theorem nine_get (A : Array Value) (l : List Int) (h : A = (l.map fun z => Value.int .i64 z).toArray) (i : Fin 9) (hl : l.length = 9 := by rfl) : A[i.val]? = some (.int .i64 (l.getD i.val 0)) := by
 subst h
 simp [hl]
theorem laid_G {W : World} (h : laidMetH Tryz.prog Rows.topNoneRow.laid W) : G W := by
 obtain ⟨ps, hv, _⟩ : laidMet Tryz.prog Rows.topNoneRow.laid W := h
 have hv : DataW.LaidVars Tryz.prog W [("aneroid/wide.none", .agg [.lit (.int .i64 0), .lit (.int .u64 0)]), ("aneroid/wide.least", .agg [.lit (.int .i64 (-9223372036854775808)), .lit (.int .u64 0)]), ("aneroid/sym.places", .agg [Lib.tabData .i64 [0, 1, 2], Lib.tabData .i64 [1, 3, 4], Lib.tabData .i64 [2, 4, 5]]),
  ("aneroid/atmos.table", Lib.tabData .i64 Al.T), ("aneroid/spread.rows", .agg [Lib.tabData .i64 [32768, 256, -1], Lib.tabData .i64 [0, 32768, -256], Lib.tabData .i64 [0, 0, 32768]])] ps := hv
 obtain ⟨n0, n1⟩ := wide_of_vars (g := 1) (by kernel_rfl) (by kernel_rfl) hv
 obtain ⟨_, hv⟩ := vars_tail hv
 obtain ⟨e0, e1⟩ := wide_of_vars (g := 4) (by kernel_rfl) (by kernel_rfl) hv
 obtain ⟨_, hv⟩ := vars_tail hv
 have hp := nine_of_vars (g := 3) (t := 194) (e := 193) (i := 3) (by kernel_rfl) (by kernel_rfl) Tryz.underlying194 Tryz.underlying193 Tryz.underlying3 (by kernel_rfl) (by kernel_rfl) (by kernel_rfl) hv
 obtain ⟨_, hv⟩ := vars_tail hv
 have ht := tab_of_vars (g := 0) (t := 137) (e := 2) (n := 47) (by kernel_rfl) (by kernel_rfl) Tryz.underlying137 Tryz.underlying2 cells2 (by kernel_rfl) hv
 obtain ⟨_, hv⟩ := vars_tail hv
 have hr := nine_of_vars (g := 2) (t := 187) (e := 25) (i := 2) (by kernel_rfl) (by kernel_rfl) Tryz.underlying187 Tryz.underlying25 Tryz.underlying2 (by kernel_rfl) (by kernel_rfl) (by kernel_rfl) hv
 exact ⟨fun i hi => ht.cell (by kernel_rfl) i hi, n0, n1, fun i => (World.var?_cell (by kernel_rfl) hr i).trans (nine_get _ _ (by rfl) i), fun i => (World.var?_cell (by kernel_rfl) hp i).trans (nine_get _ _ (by rfl) i), e0, e1⟩
theorem cells30 : Tryz.prog.cellsOf 30 = 16 := by kernel_rfl
set_option maxRecDepth 100000
theorem okWide_sixteen {w : World} {r : Reach} {b0 : Nat} {v : Value} (h : Value.okWide Tryz.prog w r b0 30 v) : ∃ cs : Array Value, v = .agg cs := by
 simp only [Value.okWide, Tryz.underlying30] at h
 obtain ⟨cs, h1, _⟩ := h
 exact ⟨cs, h1⟩
theorem sixteen_of {H : Type} {enc : TypeId × Value → H} {w : World} {base fuel : Nat} {spare : Nat → Bool} {held : Bool} {cs : List Value} {x : DataW H × List MemPlace} (h : DataW.trod enc Tryz.prog w base spare held fuel 30 cs = some x) :
  ∃ cn : Nat → Int, cs = [.int .i64 (cn 0), .int .i64 (cn 1), .int .i64 (cn 2), .int .i64 (cn 3), .int .i64 (cn 4), .int .i64 (cn 5), .int .i64 (cn 6), .int .i64 (cn 7), .int .i64 (cn 8), .int .i64 (cn 9), .int .i64 (cn 10), .int .i64 (cn 11), .int .i64 (cn 12), .int .i64 (cn 13), .int .i64 (cn 14), .int .i64 (cn 15)] := by
 obtain ⟨xs, m, _, _, hlen, hl, hel⟩ := DataW.trod_array Tryz.underlying30 h
 rw [cells30] at hlen
 have hE : ∀ i : Nat, ∃ z : Int, i < 16 → cs[i]? = some (.int .i64 z) := fun i => by
  by_cases hi : i < 16
  ·
   have hE := hel i hi
   rw [cells2, Nat.mul_one, List.getElem?_eq_getElem (by omega)] at hE
   have hd : (cs.drop i).take 1 = [cs[i]] := by
    rw [List.drop_eq_getElem_cons (by omega)]
    rfl
   rw [hd] at hE
   obtain ⟨z, e, _⟩ := DataW.trod_int Tryz.underlying2 hE
   simp at e
   exact ⟨z, fun _ => by rw [List.getElem?_eq_getElem (by omega), e]⟩
  exact ⟨0, fun h => absurd h hi⟩
 refine ⟨fun i => (hE i).choose, ?_⟩
 have e : cs = (List.range 16).map fun i => Value.int .i64 (hE i).choose := by
  apply List.ext_getElem?
  intro i
  by_cases hi : i < 16
  ·
   rw [(hE i).choose_spec hi, List.getElem?_map, List.getElem?_range hi]
   rfl
  rw [List.getElem?_eq_none (by omega), List.getElem?_eq_none (by simp; omega)]
 exact e
end Go.Proofs.YtpdahkgandaabaaGreatDoor.Ch
