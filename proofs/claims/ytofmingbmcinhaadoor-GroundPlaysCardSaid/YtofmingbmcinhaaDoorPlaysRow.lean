/- The law GroundPlays of layer 18 over a row as it comes in. -/
import Derived.Test.YtofmingbmcinhaaDoorPlaysLaw
namespace Go.Proofs.YtofmingbmcinhaaDoor.Bg
open Go.RowKit Go.Proofs.YtofmingbmcinhaaDoorW.PrintWords Go.Proofs.YtofmingbmcinhaaDoorW.PrintLast Go.Proofs.YtofmingbmcinhaaDoorW.PrintMore Go.Proofs.YtofmingbmcinhaaDoor.Gd
theorem lawPlays_row (w : World) (p0 p1 p2 : Int) (a1 : Option Addr) (len1 cap1 : Nat) (z1 : List Int) (hT : Tab w)
    (w1 : (a1 = none ∧ len1 = 0 ∧ cap1 = 0 ∧ z1 = []) ∨ ∃ x, a1 = some x ∧ len1 ≤ cap1 ∧ cap1 ≤ maxLen ∧ z1.length = cap1 ∧ (∀ i, i < z1.length → w.cell? (x.add i) = some (.int .i64 (z1.getD i 0))) ∧ ∀ n ∈ z1, (Lit.int .i64 n).wf = true) :
    Calls Tryd.prog 3 #[.agg #[.int .i64 p0, .int .i64 p1, .int .i64 p2], .slice a1 len1 cap1] w fun e w' => e = .returned (.bool true) ∧ Below w.heap.size w w' := by
  obtain ⟨l0, rfl, hr0, _, _, _⟩ := ReadsInt.ofRowC w1
  exact lawPlays_any w p0 p1 p2 a1 cap1 l0 hT (Kd.C_of_reads (d := (0 : Int)) (h1 := fun _ => rfl) hr0)
end Go.Proofs.YtofmingbmcinhaaDoor.Bg
