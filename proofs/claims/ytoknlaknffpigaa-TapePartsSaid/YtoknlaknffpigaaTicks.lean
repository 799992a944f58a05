/- A slice of ticks that came in, as a list: each tick's four cells, its numbers within their kind. -/
import Derived.Test.YtoknlaknffpigaaProg
import Derived.Test.YtoknlaknffpigaaWMore
import Derived.Deep.Slices
import Derived.Deep.Fields
import Derived.Lib.SmallJoins
import Derived.ProofKit
import Derived.OpenShut
namespace Go.Proofs.Ytoknlaknffpigaa.Tk
open Go.RowKit Go.ChangeShapes Go.WideShapes Go.Deep Go.Joins Go.Proofs.YtoknlaknffpigaaW.PrintWords

abbrev T := Int × Bool × Int × Bool
def cellsOfT (t : T) : List Value := [.int .i64 t.1, .bool t.2.1, .int .i64 t.2.2.1, .bool t.2.2.2]
def InR (x : Int) : Prop := -9223372036854775808 ≤ x ∧ x ≤ 9223372036854775807
def OkT (t : T) : Prop := InR t.1 ∧ InR t.2.2.1

theorem list4 {α : Type} (cs : List α) (h : cs.length = 4) : ∃ a b c d, cs = [a, b, c, d] := by
  match cs, h with
  | [a, b, c, d], _ => exact ⟨a, b, c, d, rfl⟩

theorem tick_of {H : Type} {enc : TypeId × Value → H} {w : World} {base fuel : Nat} {spare : Nat → Bool} {held : Bool} {cs : List Value} {x : DataW H × List MemPlace}
    (h : DataW.trod enc Try.prog w base spare held fuel 33 cs = some x) : ∃ t : T, cs = cellsOfT t ∧ OkT t := by
  obtain ⟨y0, y1, y2, y3, n, _, hl, h0, h1, h2, h3⟩ := trod_struct4 Try.underlying33 h
  have c33 : Try.prog.cellsOf 33 = 4 := by kernel_rfl
  have c2 : Try.prog.cellsOf 2 = 1 := by kernel_rfl
  have c4 : Try.prog.cellsOf 4 = 1 := by kernel_rfl
  rw [c33] at hl
  obtain ⟨a, b, c, d, rfl⟩ := list4 cs hl
  simp only [c2, c4] at h0 h1 h2 h3
  obtain ⟨v0, g0, _, w0⟩ := DataW.trod_int Try.underlying2 h0
  obtain ⟨v1, g1, _⟩ := DataW.trod_bool Try.underlying4 h1
  obtain ⟨v2, g2, _, w2⟩ := DataW.trod_int Try.underlying2 h2
  obtain ⟨v3, g3, _⟩ := DataW.trod_bool Try.underlying4 h3
  simp at g0 g1 g2 g3
  subst g0 g1 g2 g3
  exact ⟨(v0, v1, v2, v3), rfl, bounds_i64 w0, bounds_i64 w2⟩

theorem open_ticks {H : Type} {enc : TypeId × Value → H} {w : World} {base fuel : Nat} {spare : Nat → Bool} {held : Bool} {a : Option Addr} {len cap : Nat} {x : DataW H × List MemPlace}
    (h : DataW.trod enc Try.prog w base spare held fuel 37 [.slice a len cap] = some x) :
    len ≤ cap ∧ ∃ l : List T, l.length = len ∧ (∀ t ∈ l, OkT t) ∧ ReadsRow (fun t c => c = cellsOfT t) 4 w a len l := by
  have c33 : Try.prog.cellsOf 33 = 4 := by kernel_rfl
  rcases open_slice Try.underlying37 h with ⟨hcs, _⟩ | ⟨ad, len', cap', m, n, D, Pl, hcs, _, hl, hm, hmm, _, hi⟩
  · simp at hcs
    obtain ⟨rfl, rfl, rfl⟩ := hcs
    exact ⟨Nat.le_refl _, [], rfl, by simp, rfl, by omega, fun h => by omega⟩
  · simp at hcs
    obtain ⟨rfl, rfl, rfl⟩ := hcs
    have hlm : len ≤ m := by rw [hmm]; split <;> omega
    rw [c33] at hi
    have hex : ∀ i : Nat, ∃ t : T, i < len → OkT t ∧ ∀ j u, (cellsOfT t)[j]? = some u → w.cell? (ad.add (i * 4 + j)) = some u := by
      intro i
      by_cases hil : i < len
      · obtain ⟨cs', hc, ht⟩ := hi i (by omega)
        obtain ⟨t, rfl, hok⟩ := tick_of ht
        obtain ⟨_, hcl, hat⟩ := World.cells?_some hc
        refine ⟨t, fun _ => ⟨hok, fun j u hu => ?_⟩⟩
        have hj : j < 4 := (List.getElem?_eq_some_iff.1 hu).1
        have := hat j hj
        rw [Go.Deep.add_add] at this
        exact this.trans hu
      · exact ⟨(0, false, 0, false), fun h => absurd h hil⟩
    obtain ⟨f, hf⟩ := Classical.axiomOfChoice hex
    unfold maxLen at hm
    refine ⟨hl, (List.range len).map f, by simp, ?_, by simp, by omega, fun _ => ⟨ad, rfl, fun j p hp => ?_⟩⟩
    · intro t ht
      obtain ⟨i, hi1, rfl⟩ := List.mem_map.1 ht
      exact (hf i (List.mem_range.1 hi1)).1
    · have hj : j < len := by have := (List.getElem?_eq_some_iff.1 hp).1; simpa using this
      have e : p = f j := by
        simp [hj] at hp
        exact hp.symm
      subst e
      exact ⟨cellsOfT (f j), rfl, rfl, (hf j hj).2⟩
end Go.Proofs.Ytoknlaknffpigaa.Tk
