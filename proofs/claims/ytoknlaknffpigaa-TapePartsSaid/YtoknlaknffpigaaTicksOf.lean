/- Ticks that came in, in the form that the walks of layer 21 use. -/
import Derived.Test.YtoknlaknffpigaaTicks
import Derived.Test.YtoknlaknffpigaaTapePlain
namespace Go.Proofs.Ytoknlaknffpigaa.Tp
open Go.RowKit Go.Proofs.YtoknlaknffpigaaW.PrintWords Go.Proofs.YtoknlaknffpigaaW.PrintLast Go.Proofs.YtoknlaknffpigaaW.PrintMore Go.Proofs.Ytoknlaknffpigaa.PTapePuts
def s33 (t : Tk.T) : S33 := ⟨t.1, t.2.1, t.2.2.1, t.2.2.2⟩
theorem ticks_of {w : World} {A : Option Addr} {len : Nat} {l : List Tk.T} (hl : l.length = len) (hok : ∀ t ∈ l, Tk.OkT t) (hr : ReadsRow (fun t c => c = Tk.cellsOfT t) 4 w A len l) :
    (l.map s33).length = len ∧ Kd.C k33 w A (l.map s33).length (l.map s33) ∧ ∀ t ∈ l.map s33, OkT t := by
  have e : (l.map s33).length = len := by simpa using hl
  refine ⟨e, ?_, fun t ht => ?_⟩
  · rw [e]
    obtain ⟨h1, h2, h3⟩ := hr
    refine ⟨e, h2, fun hp => ?_⟩
    obtain ⟨ad, ha, hat⟩ := h3 hp
    refine ⟨ad, ha, fun j p hj => ?_⟩
    rw [List.getElem?_map] at hj
    obtain ⟨t, ht, rfl⟩ := Option.map_eq_some_iff.1 hj
    obtain ⟨cs, hcl, rfl, hcells⟩ := hat j t ht
    exact ⟨_, hcl, k33_mk w (s33 t), hcells⟩
  · obtain ⟨x, hx, rfl⟩ := List.mem_map.1 ht
    exact hok x hx
end Go.Proofs.Ytoknlaknffpigaa.Tp
