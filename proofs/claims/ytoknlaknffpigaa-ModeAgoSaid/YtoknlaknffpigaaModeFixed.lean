/- The chapter's example of layer 19: the walk of the law package's fixed example. -/
import Derived.Test.YtoknlaknffpigaaModeRun
namespace Go.Proofs.Ytoknlaknffpigaa.Mi
open Go.RowKit Go.Proofs.YtoknlaknffpigaaW.PrintWords Go.Proofs.Ytoknlaknffpigaa.Mp

theorem c_of_block {w : World} {g t : Nat} {xs : List Int} (h : w.heap[g]? = some (.cells (xs.map (Value.int .i64)).toArray t (0, 0))) (hl : xs.length ≤ 9223372036854775807) : Kd.C (Kd.int .i64) w (some ⟨g, 0, none⟩) xs.length xs := by
  refine ⟨rfl, hl, fun _ => ⟨_, rfl, fun j p hj => ⟨[.int .i64 p], rfl, rfl, fun i u hu => ?_⟩⟩⟩
  have hi : i = 0 := by
    have := (List.getElem?_eq_some_iff.1 hu).1
    simpa using this
  subst hi
  have hu' : u = .int .i64 p := by simpa using hu.symm
  subst hu'
  rw [show ((Kd.int .i64).sz) = 1 from rfl, Nat.mul_one, Nat.add_zero, add_plain, blk_cell h]
  simp [hj]

theorem run_three (w : World) (cap : Nat) (A : Option Addr) (hR : Kd.C (Kd.int .i64) w A 3 [0, 2, 2]) :
    Calls Try.prog 38 #[.slice A 3 cap, .int .i64 2, .int .i64 3] w fun e w' => ∃ g c, e = .returned (.slice (some ⟨g, 0, none⟩) 3 c) ∧ Below w.heap.size w w' ∧
      w'.cell? ⟨g, 0, none⟩ = some (.int .i64 1) ∧ w'.cell? ⟨g, 1, none⟩ = some (.int .i64 0) ∧ w'.cell? ⟨g, 2, none⟩ = some (.int .i64 1) ∧ w'.cell? ⟨g, 3, none⟩ = some (.int .i64 1) ∧ w'.cell? ⟨g, 4, none⟩ = some (.int .i64 2) ∧ w'.cell? ⟨g, 5, none⟩ = some (.int .i64 2) := by
  refine (run_any w A cap [0, 2, 2] 2 3 hR (by decide)).mono ?_
  rintro e w' ⟨v, rfl, hown, hb⟩
  have hr : runs 2 3 [0, 2, 2] ([0, 2, 2] : List Int).length = [(1, 0), (1, 1), (2, 2)] := by decide +kernel
  rw [hr] at hown
  obtain ⟨g, c, rfl⟩ := ownsRow_succ hown
  have hc := hown.cells (g := g) rfl
  refine ⟨g, c, rfl, hb, ?_, ?_, ?_, ?_, ?_, ?_⟩
  · exact hc 0 _ rfl
  · exact hc 1 _ rfl
  · exact hc 2 _ rfl
  · exact hc 3 _ rfl
  · exact hc 4 _ rfl
  · exact hc 5 _ rfl

theorem eqA55 (d : Nat) (w : World) (x0 y0 x1 y1 : Int) : (Op.equalIn (d + 2) 55 (.agg #[.int .i64 x0, .int .i64 x1]) (.agg #[.int .i64 y0, .int .i64 y1])).run Try.prog w = .ok (x0 == y0 && x1 == y1) w := by
  refine eqA_of Try.underlying55 (by kernel_rfl) ?_
  refine eqf_cons (by rfl) (by go_simp; rfl) (by go_simp; rfl) (by go_simp) ?_
  exact eqf_last (by rfl) (by go_simp; rfl) (by go_simp; rfl) (by go_simp)
theorem eqb55 (w : World) (x0 y0 x1 y1 : Int) : (binOp .eql 55 (.agg #[.int .i64 x0, .int .i64 x1]) (.agg #[.int .i64 y0, .int .i64 y1])).run Try.prog w = .ok (.bool (x0 == y0 && x1 == y1)) w := by
  simp only [binOp]
  simp [Op.equal, Op.maxDepth, eqA55 9998]

attribute [local go_sem] eqb55
set_option maxRecDepth 100000 in
set_option maxHeartbeats 4000000 in
theorem fixed_any (w : World) : Calls Try.prog 33 #[] w fun e w' => e = .returned (.bool true) ∧ Below w.heap.size w w' := by
  go_enter Try.func33, Try.ntmps33
  go_wp2_with fail
  refine (run_three _ 3 (some ⟨w.heap.size, 0, none⟩) (c_of_block (blk_new w _) (by decide))).mono ?_
  rintro e w1 ⟨g, c, rfl, hb, h0, h1, h2, h3, h4, h5⟩
  have HB := Aside0.mk (below_step (below_alloc (Below.refl _ w) _) hb)
  clear hb
  go_wp2
  go_ret
  exact ⟨rfl, HB.out⟩
end Go.Proofs.Ytoknlaknffpigaa.Mi
