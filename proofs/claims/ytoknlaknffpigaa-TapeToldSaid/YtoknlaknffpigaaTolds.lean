/- A slice of what was told that came in, as a list: each entry's nine cells. -/
import Derived.Test.YtoknlaknffpigaaPTapeToldx0
import Derived.Test.YtoknlaknffpigaaWMore
import Derived.Deep.Slices
import Derived.Deep.Fields
import Derived.Lib.SmallJoins
import Derived.ProofKit
import Derived.OpenShut
namespace Go.Proofs.Ytoknlaknffpigaa.To
open Go.RowKit Go.ChangeShapes Go.WideShapes Go.Deep Go.Joins Go.Proofs.YtoknlaknffpigaaW.PrintWords Go.Proofs.Ytoknlaknffpigaa.PTapeTold

abbrev T := S98
def cellsOfT (x : T) : List Value := [.int .i64 x.f0, .bool x.f1, .bool x.f2, .bool x.f3, .bool x.f4, .bool x.f5, .int .i64 x.f6, .int .i64 x.f7, .int .i64 x.f8]
def OkT (_ : T) : Prop := True

theorem list9 {α : Type} (cs : List α) (h : cs.length = 9) : ∃ a b c d e f g i j, cs = [a, b, c, d, e, f, g, i, j] := by
  match cs, h with
  | [a, b, c, d, e, f, g, i, j], _ => exact ⟨a, b, c, d, e, f, g, i, j, rfl⟩

set_option maxRecDepth 100000 in
theorem told_of {H : Type} {enc : TypeId × Value → H} {w : World} {base fuel : Nat} {spare : Nat → Bool} {held : Bool} {cs : List Value} {x : DataW H × List MemPlace}
    (h : DataW.trod enc Try.prog w base spare held fuel 98 cs = some x) : ∃ t : T, cs = cellsOfT t := by
  obtain ⟨xs, n, _, rfl, hl, hlen, hf⟩ := DataW.trod_struct Try.underlying98 h
  have c98 : Try.prog.cellsOf 98 = 9 := by kernel_rfl
  have c2 : Try.prog.cellsOf 2 = 1 := by kernel_rfl
  have c3 : Try.prog.cellsOf 3 = 1 := by kernel_rfl
  have c4 : Try.prog.cellsOf 4 = 1 := by kernel_rfl
  rw [c98] at hl
  obtain ⟨a0, a1, a2, a3, a4, a5, a6, a7, a8, rfl⟩ := list9 cs hl
  obtain ⟨y0, y1, y2, y3, y4, y5, y6, y7, y8, rfl⟩ := list9 xs hlen
  have h0 : DataW.trod enc Try.prog w base spare held n 3 (([a0, a1, a2, a3, a4, a5, a6, a7, a8].drop 0).take 1) = some y0 := by rw [← c3]; exact hf 0 _ rfl
  have h1 : DataW.trod enc Try.prog w base spare held n 4 (([a0, a1, a2, a3, a4, a5, a6, a7, a8].drop 1).take 1) = some y1 := by rw [← c4]; exact hf 1 _ rfl
  have h2 : DataW.trod enc Try.prog w base spare held n 4 (([a0, a1, a2, a3, a4, a5, a6, a7, a8].drop 2).take 1) = some y2 := by rw [← c4]; exact hf 2 _ rfl
  have h3 : DataW.trod enc Try.prog w base spare held n 4 (([a0, a1, a2, a3, a4, a5, a6, a7, a8].drop 3).take 1) = some y3 := by rw [← c4]; exact hf 3 _ rfl
  have h4 : DataW.trod enc Try.prog w base spare held n 4 (([a0, a1, a2, a3, a4, a5, a6, a7, a8].drop 4).take 1) = some y4 := by rw [← c4]; exact hf 4 _ rfl
  have h5 : DataW.trod enc Try.prog w base spare held n 4 (([a0, a1, a2, a3, a4, a5, a6, a7, a8].drop 5).take 1) = some y5 := by rw [← c4]; exact hf 5 _ rfl
  have h6 : DataW.trod enc Try.prog w base spare held n 2 (([a0, a1, a2, a3, a4, a5, a6, a7, a8].drop 6).take 1) = some y6 := by rw [← c2]; exact hf 6 _ rfl
  have h7 : DataW.trod enc Try.prog w base spare held n 2 (([a0, a1, a2, a3, a4, a5, a6, a7, a8].drop 7).take 1) = some y7 := by rw [← c2]; exact hf 7 _ rfl
  have h8 : DataW.trod enc Try.prog w base spare held n 2 (([a0, a1, a2, a3, a4, a5, a6, a7, a8].drop 8).take 1) = some y8 := by rw [← c2]; exact hf 8 _ rfl
  obtain ⟨v0, g0, _, _⟩ := DataW.trod_int Try.underlying3 h0
  obtain ⟨v1, g1, _⟩ := DataW.trod_bool Try.underlying4 h1
  obtain ⟨v2, g2, _⟩ := DataW.trod_bool Try.underlying4 h2
  obtain ⟨v3, g3, _⟩ := DataW.trod_bool Try.underlying4 h3
  obtain ⟨v4, g4, _⟩ := DataW.trod_bool Try.underlying4 h4
  obtain ⟨v5, g5, _⟩ := DataW.trod_bool Try.underlying4 h5
  obtain ⟨v6, g6, _, _⟩ := DataW.trod_int Try.underlying2 h6
  obtain ⟨v7, g7, _, _⟩ := DataW.trod_int Try.underlying2 h7
  obtain ⟨v8, g8, _, _⟩ := DataW.trod_int Try.underlying2 h8
  simp at g0 g1 g2 g3 g4 g5 g6 g7 g8
  subst g0 g1 g2 g3 g4 g5 g6 g7 g8
  exact ⟨⟨v0, v1, v2, v3, v4, v5, v6, v7, v8⟩, rfl⟩

theorem open_tolds {H : Type} {enc : TypeId × Value → H} {w : World} {base fuel : Nat} {spare : Nat → Bool} {held : Bool} {a : Option Addr} {len cap : Nat} {x : DataW H × List MemPlace}
    (h : DataW.trod enc Try.prog w base spare held fuel 67 [.slice a len cap] = some x) :
    len ≤ cap ∧ ∃ l : List T, l.length = len ∧ (∀ t ∈ l, OkT t) ∧ ReadsRow (fun t c => c = cellsOfT t) 9 w a len l := by
  have c98 : Try.prog.cellsOf 98 = 9 := by kernel_rfl
  rcases open_slice Try.underlying67 h with ⟨hcs, _⟩ | ⟨ad, len', cap', m, n, D, Pl, hcs, _, hl, hm, hmm, _, hi⟩
  · simp at hcs
    obtain ⟨rfl, rfl, rfl⟩ := hcs
    exact ⟨Nat.le_refl _, [], rfl, by simp, rfl, by omega, fun h => by omega⟩
  · simp at hcs
    obtain ⟨rfl, rfl, rfl⟩ := hcs
    have hlm : len ≤ m := by rw [hmm]; split <;> omega
    rw [c98] at hi
    have hex : ∀ i : Nat, ∃ t : T, i < len → ∀ j u, (cellsOfT t)[j]? = some u → w.cell? (ad.add (i * 9 + j)) = some u := by
      intro i
      by_cases hil : i < len
      · obtain ⟨cs', hc, ht⟩ := hi i (by omega)
        obtain ⟨t, rfl⟩ := told_of ht
        obtain ⟨_, hcl, hat⟩ := World.cells?_some hc
        refine ⟨t, fun _ j u hu => ?_⟩
        have hj : j < 9 := (List.getElem?_eq_some_iff.1 hu).1
        have := hat j hj
        rw [Go.Deep.add_add] at this
        exact this.trans hu
      · exact ⟨z98, fun h => absurd h hil⟩
    obtain ⟨f, hf⟩ := Classical.axiomOfChoice hex
    unfold maxLen at hm
    refine ⟨hl, (List.range len).map f, by simp, fun _ _ => trivial, by simp, by omega, fun _ => ⟨ad, rfl, fun j p hp => ?_⟩⟩
    have hj : j < len := by have := (List.getElem?_eq_some_iff.1 hp).1; simpa using this
    have e : p = f j := by
      simp [hj] at hp
      exact hp.symm
    subst e
    exact ⟨cellsOfT (f j), rfl, rfl, hf j hj⟩

theorem tolds_of {w : World} {A : Option Addr} {len : Nat} {l : List T} (hl : l.length = len) (hr : ReadsRow (fun t c => c = cellsOfT t) 9 w A len l) : Kd.C k98 w A l.length l := by
  subst hl
  obtain ⟨h1, h2, h3⟩ := hr
  refine ⟨rfl, h2, fun hp => ?_⟩
  obtain ⟨ad, ha, hat⟩ := h3 hp
  refine ⟨ad, ha, fun j p hj => ?_⟩
  obtain ⟨cs, hcl, rfl, hcells⟩ := hat j p hj
  exact ⟨_, hcl, k98_mk w p, hcells⟩
end Go.Proofs.Ytoknlaknffpigaa.To
