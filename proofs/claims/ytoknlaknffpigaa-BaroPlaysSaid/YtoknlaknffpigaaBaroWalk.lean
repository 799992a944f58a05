/- The walks of the log of ticks (layer 16): a new log, a tick taken in, what the log tells; each by its block in memory. -/
import Derived.Test.YtoknlaknffpigaaPBaroNonex1
import Derived.Test.YtoknlaknffpigaaPMeanOfx1
import Derived.StillTailTactics
import Derived.Outline
import Derived.Deep.RegionWith
namespace Go.Proofs.Ytoknlaknffpigaa.Bw
open Go.RowKit Go.Proofs.YtoknlaknffpigaaW.PrintWords Go.Proofs.YtoknlaknffpigaaW.PrintLast Go.Proofs.YtoknlaknffpigaaW.PrintMore

/-- A log's block: how many good, bad, none; the last one. -/
def LogAt (w : World) (g : Nat) (a b c l : Int) : Prop := w.heap[g]? = some (.cells #[.int .i64 a, .int .i64 b, .int .i64 c, .int .i64 l] 90 (0, 0))

theorem new_any (w : World) : Calls Try.prog 21 #[] w fun e w' => e = .returned (.pointer (some ⟨w.heap.size, 0, none⟩)) ∧ LogAt w' w.heap.size 0 0 0 0 ∧ Below w.heap.size w w' := by
  go_enter Try.func21, Try.ntmps21
  go_wp2
  go_ret
  exact ⟨rfl, blk_new _ _, below_alloc (Below.refl _ _) _⟩

theorem last_any (w : World) (g : Nat) (a b c l : Int) (h : LogAt w g a b c l) : Calls Try.prog 26 #[.pointer (some ⟨g, 0, none⟩)] w fun e w' => e = .returned (.int .i64 l) ∧ w = w' := by
  have h3 : w.cell? ⟨g, 3, none⟩ = some (.int .i64 l) := blk_cell h 3
  go_enter Try.func26, Try.ntmps26
  go_wp2
  go_ret
  exact ⟨rfl, rfl⟩

theorem counts_any (w : World) (g : Nat) (a b c l : Int) (h : LogAt w g a b c l) : Calls Try.prog 24 #[.pointer (some ⟨g, 0, none⟩)] w fun e w' => e = .returned (.tuple #[.int .i64 a, .int .i64 b, .int .i64 c]) ∧ Drawn0 w w' := by
  have h0 : w.cell? ⟨g, 0, none⟩ = some (.int .i64 a) := blk_cell h 0
  have h1 : w.cell? ⟨g, 1, none⟩ = some (.int .i64 b) := blk_cell h 1
  have h2 : w.cell? ⟨g, 2, none⟩ = some (.int .i64 c) := blk_cell h 2
  go_enter Try.func24, Try.ntmps24
  go_wp2
  go_quiet (fail)
  go_wp2
  go_ret3
  exact ⟨rfl, (Drawn0.refl _).step _⟩


theorem kindf (x : Int) (h : Bool) (p : Int) (s : Bool) : PBaroNone.baro_kind.f x h p s = some (if h = true then (if (decide (90528 ≤ p ∧ p ≤ 430515)) = true then 0 else 1) else 2) := by
  unfold PBaroNone.baro_kind.f PBaroNone.atmos_Good.f
  cases h
  · simp
  · by_cases h1 : 90528 ≤ p <;> by_cases h2 : p ≤ 430515 <;> simp [h1, h2]


section
variable {a w w1 : World} {g : Nat}
theorem gb_refl (w : World) (g : Nat) : w.grownBy w (some g) := grown_of_below (Below.refl _ _) _
theorem gb_below (h : a.grownBy w (some g)) (hb : Below w.heap.size w w1) : a.grownBy w1 (some g) :=
  ⟨hb.os.trans h.os, hb.tape.trans h.tape, hb.output.trans h.output, Nat.le_trans h.size hb.size, fun i hi hne => (hb.block i (Nat.lt_of_lt_of_le hi h.size)).trans (h.block i hi hne)⟩
theorem gb_set (h : a.grownBy w (some g)) (j : Nat) (u : Value) : a.grownBy (w.setCell ⟨g, j, none⟩ u) (some g) :=
  ⟨h.os, h.tape, h.output, by simpa [World.setCell] using h.size, fun i hi hne => (Below.heap_setCell w ⟨g, j, none⟩ u i (fun e => hne (by rw [e]))).trans (h.block i hi hne)⟩
theorem gb_trans {b : World} (h : a.grownBy w (some g)) (k : w.grownBy b (some g)) : a.grownBy b (some g) :=
  ⟨k.os.trans h.os, k.tape.trans h.tape, k.output.trans h.output, Nat.le_trans h.size k.size, fun i hi hne => (k.block i (Nat.lt_of_lt_of_le hi h.size) hne).trans (h.block i hi hne)⟩
end

def kindOf (h : Bool) (p : Int) : Int := if h = true then (if (decide (90528 ≤ p ∧ p ≤ 430515)) = true then 0 else 1) else 2
def Tick (x : Int) (h : Bool) (p : Int) (s : Bool) : Value := .agg #[.int .i64 x, .bool h, .int .i64 p, .bool s]

theorem in_good (w : World) (g : Nat) (a b c l : Int) (hl : LogAt w g a b c l) (x : Int) (p : Int) (s : Bool) (h1 : 90528 ≤ p) (h2 : p ≤ 430515) (ha0 : 0 ≤ a) (ha1 : a ≤ 1000) :
    Calls Try.prog 22 #[.pointer (some ⟨g, 0, none⟩), .agg #[.int .i64 x, .bool true, .int .i64 p, .bool s]] w fun e w' => e = .returned (.tuple #[.int .i64 p, .bool true]) ∧ LogAt w' g (a + 1) b c p ∧ w.grownBy w' (some g) := by
  have hk : PBaroNone.baro_kind.f x true p s = some 0 := by rw [kindf]; simp [h1, h2]
  have hbr : PBaroNone.baro_Brings.f x true p s = some (p, true) := by unfold PBaroNone.baro_Brings.f; rw [hk]; rfl
  have HK := Aside0.mk hk
  have HBR := Aside0.mk hbr
  clear hk hbr
  have hlt := blk_lt hl
  go_enter Try.func22, Try.ntmps22
  go_wp2
  obtain ⟨W, hW⟩ : ∃ W : World, W = w.alloc (.cells #[.int .i64 x, .bool true, .int .i64 p, .bool s] 33) := ⟨_, rfl⟩
  have HX := Aside0.mk (show W.heap[w.heap.size]? = some (.cells #[.int .i64 x, .bool true, .int .i64 p, .bool s] 33 (0, 0)) by rw [hW]; exact blk_new _ _)
  have HL := Aside0.mk (show W.heap[g]? = some (.cells #[.int .i64 a, .int .i64 b, .int .i64 c, .int .i64 l] 90 (0, 0)) by rw [hW]; exact blk_alloc hl _)
  have HB := Aside0.mk (show w.grownBy W (some g) by rw [hW]; exact grown_of_below (below_alloc (Below.refl _ _) _) _)
  rw [← hW]
  clear hW hl
  have hz1 := blk_lt HX.out
  have hz2 := blk_lt HL.out
  have b0 : W.cell? ⟨w.heap.size, 0, none⟩ = some (.int .i64 x) := (blk_cell HX.out 0).trans rfl
  have b1 : W.cell? ⟨w.heap.size, 1, none⟩ = some (.bool true) := (blk_cell HX.out 1).trans rfl
  have b2 : W.cell? ⟨w.heap.size, 2, none⟩ = some (.int .i64 p) := (blk_cell HX.out 2).trans rfl
  have b3 : W.cell? ⟨w.heap.size, 3, none⟩ = some (.bool s) := (blk_cell HX.out 3).trans rfl
  go_region_with (first | (go_at_call 50; refine (PBaroNone.baro_kind.calls x true p s 0 _ HK.out).mono ?_; rintro e w1 ⟨rfl, hb⟩; have fg : w1.frozen? ⟨g, 0, none⟩ = false := (hb.frozen (p := ⟨g, 0, none⟩) hz2).trans (blk_frozen HL.out 0); have dg : w1.cell? ⟨g, 0, none⟩ = some (.int .i64 a) := (hb.cell (p := ⟨g, 0, none⟩) hz2).trans ((blk_cell HL.out 0).trans rfl)))
  have HX1 := Aside0.mk (blk_far (p := ⟨g, 0, none⟩) (blk_below (show W.drew.heap[w.heap.size]? = _ from HX.out) hb) (fun e => by have : w.heap.size = g := e; omega) (.int .i64 (IntKind.i64.wrap (a + 1))))
  have HL1 := Aside0.mk (blk_set (blk_below (show W.drew.heap[g]? = _ from HL.out) hb) 0 (.int .i64 (IntKind.i64.wrap (a + 1))))
  have HB1 := Aside0.mk (gb_set (gb_below (gb_below HB.out (below_drew (Below.refl _ _))) hb) 0 (.int .i64 (IntKind.i64.wrap (a + 1))))
  rw [show IntKind.i64.wrap (a + 1) = a + 1 by rw [IntKind.wrap_i64]; omega] at HX1 HL1 HB1 ⊢
  clear fg dg b0 b1 b2 b3 HX HL HB HK
  obtain ⟨W2, hW2⟩ : ∃ W2 : World, W2 = w1.setCell ⟨g, 0, none⟩ (.int .i64 (a + 1)) := ⟨_, rfl⟩
  rw [← hW2] at HX1 HL1 HB1 ⊢
  clear hW2
  have b0 : W2.cell? ⟨w.heap.size, 0, none⟩ = some (.int .i64 x) := (blk_cell HX1.out 0).trans rfl
  have b1 : W2.cell? ⟨w.heap.size, 1, none⟩ = some (.bool true) := (blk_cell HX1.out 1).trans rfl
  have b2 : W2.cell? ⟨w.heap.size, 2, none⟩ = some (.int .i64 p) := (blk_cell HX1.out 2).trans rfl
  have b3 : W2.cell? ⟨w.heap.size, 3, none⟩ = some (.bool s) := (blk_cell HX1.out 3).trans rfl
  go_wp2_with (first | (go_at_call 19; refine (PBaroNone.baro_Brings.calls x true p s p true _ HBR.out).mono ?_; rintro e w3 ⟨rfl, hb3⟩; have fg : w3.frozen? ⟨g, 3, none⟩ = false := (hb3.frozen (p := ⟨g, 3, none⟩) (blk_lt HL1.out)).trans (blk_frozen HL1.out 3); have dg : w3.cell? ⟨g, 3, none⟩ = some (.int .i64 l) := (hb3.cell (p := ⟨g, 3, none⟩) (blk_lt HL1.out)).trans ((blk_cell HL1.out 3).trans rfl)))
  go_ret2
  exact ⟨rfl, blk_set (blk_below HL1.out hb3) 3 (.int .i64 p), gb_set (gb_below HB1.out hb3) 3 (.int .i64 p)⟩
theorem in_bad (w : World) (g : Nat) (a b c l : Int) (hl : LogAt w g a b c l) (x : Int) (p : Int) (s : Bool) (hp : ¬ (90528 ≤ p ∧ p ≤ 430515)) (hb0 : 0 ≤ b) (hb1 : b ≤ 1000) :
    Calls Try.prog 22 #[.pointer (some ⟨g, 0, none⟩), .agg #[.int .i64 x, .bool true, .int .i64 p, .bool s]] w fun e w' => e = .returned (.tuple #[.int .i64 0, .bool false]) ∧ LogAt w' g a (b + 1) c l ∧ w.grownBy w' (some g) := by
  have hk : PBaroNone.baro_kind.f x true p s = some 1 := by rw [kindf]; rw [if_pos rfl, if_neg (by simpa using hp)]
  have hbr : PBaroNone.baro_Brings.f x true p s = some (0, false) := by unfold PBaroNone.baro_Brings.f; rw [hk]; rfl
  have HK := Aside0.mk hk
  have HBR := Aside0.mk hbr
  clear hk hbr
  have hlt := blk_lt hl
  go_enter Try.func22, Try.ntmps22
  go_wp2
  obtain ⟨W, hW⟩ : ∃ W : World, W = w.alloc (.cells #[.int .i64 x, .bool true, .int .i64 p, .bool s] 33) := ⟨_, rfl⟩
  have HX := Aside0.mk (show W.heap[w.heap.size]? = some (.cells #[.int .i64 x, .bool true, .int .i64 p, .bool s] 33 (0, 0)) by rw [hW]; exact blk_new _ _)
  have HL := Aside0.mk (show W.heap[g]? = some (.cells #[.int .i64 a, .int .i64 b, .int .i64 c, .int .i64 l] 90 (0, 0)) by rw [hW]; exact blk_alloc hl _)
  have HB := Aside0.mk (show w.grownBy W (some g) by rw [hW]; exact grown_of_below (below_alloc (Below.refl _ _) _) _)
  rw [← hW]
  clear hW hl
  have hz1 := blk_lt HX.out
  have hz2 := blk_lt HL.out
  have b0 : W.cell? ⟨w.heap.size, 0, none⟩ = some (.int .i64 x) := (blk_cell HX.out 0).trans rfl
  have b1 : W.cell? ⟨w.heap.size, 1, none⟩ = some (.bool true) := (blk_cell HX.out 1).trans rfl
  have b2 : W.cell? ⟨w.heap.size, 2, none⟩ = some (.int .i64 p) := (blk_cell HX.out 2).trans rfl
  have b3 : W.cell? ⟨w.heap.size, 3, none⟩ = some (.bool s) := (blk_cell HX.out 3).trans rfl
  go_region_with (first | (go_at_call 50; refine (PBaroNone.baro_kind.calls x true p s 1 _ HK.out).mono ?_; rintro e w1 ⟨rfl, hb⟩; have fg : w1.frozen? ⟨g, 1, none⟩ = false := (hb.frozen (p := ⟨g, 1, none⟩) hz2).trans (blk_frozen HL.out 1); have dg : w1.cell? ⟨g, 1, none⟩ = some (.int .i64 b) := (hb.cell (p := ⟨g, 1, none⟩) hz2).trans ((blk_cell HL.out 1).trans rfl)))
  have HX1 := Aside0.mk (blk_far (p := ⟨g, 1, none⟩) (blk_below (show W.drew.heap[w.heap.size]? = _ from HX.out) hb) (fun e => by have : w.heap.size = g := e; omega) (.int .i64 (IntKind.i64.wrap (b + 1))))
  have HL1 := Aside0.mk (blk_set (blk_below (show W.drew.heap[g]? = _ from HL.out) hb) 1 (.int .i64 (IntKind.i64.wrap (b + 1))))
  have HB1 := Aside0.mk (gb_set (gb_below (gb_below HB.out (below_drew (Below.refl _ _))) hb) 1 (.int .i64 (IntKind.i64.wrap (b + 1))))
  rw [show IntKind.i64.wrap (b + 1) = b + 1 by rw [IntKind.wrap_i64]; omega] at HX1 HL1 HB1 ⊢
  clear fg dg b0 b1 b2 b3 HX HL HB HK
  obtain ⟨W2, hW2⟩ : ∃ W2 : World, W2 = w1.setCell ⟨g, 1, none⟩ (.int .i64 (b + 1)) := ⟨_, rfl⟩
  rw [← hW2] at HX1 HL1 HB1 ⊢
  clear hW2
  have b0 : W2.cell? ⟨w.heap.size, 0, none⟩ = some (.int .i64 x) := (blk_cell HX1.out 0).trans rfl
  have b1 : W2.cell? ⟨w.heap.size, 1, none⟩ = some (.bool true) := (blk_cell HX1.out 1).trans rfl
  have b2 : W2.cell? ⟨w.heap.size, 2, none⟩ = some (.int .i64 p) := (blk_cell HX1.out 2).trans rfl
  have b3 : W2.cell? ⟨w.heap.size, 3, none⟩ = some (.bool s) := (blk_cell HX1.out 3).trans rfl
  go_wp2_with (first | (go_at_call 19; refine (PBaroNone.baro_Brings.calls x true p s 0 false _ HBR.out).mono ?_; rintro e w3 ⟨rfl, hb3⟩))
  go_ret2
  exact ⟨rfl, blk_below HL1.out hb3, gb_below HB1.out hb3⟩
theorem in_none (w : World) (g : Nat) (a b c l : Int) (hl : LogAt w g a b c l) (x : Int) (p : Int) (s : Bool) (hc0 : 0 ≤ c) (hc1 : c ≤ 1000) :
    Calls Try.prog 22 #[.pointer (some ⟨g, 0, none⟩), .agg #[.int .i64 x, .bool false, .int .i64 p, .bool s]] w fun e w' => e = .returned (.tuple #[.int .i64 0, .bool false]) ∧ LogAt w' g a b (c + 1) l ∧ w.grownBy w' (some g) := by
  have hk : PBaroNone.baro_kind.f x false p s = some 2 := by rw [kindf]; rfl
  have hbr : PBaroNone.baro_Brings.f x false p s = some (0, false) := by unfold PBaroNone.baro_Brings.f; rw [hk]; rfl
  have HK := Aside0.mk hk
  have HBR := Aside0.mk hbr
  clear hk hbr
  have hlt := blk_lt hl
  go_enter Try.func22, Try.ntmps22
  go_wp2
  obtain ⟨W, hW⟩ : ∃ W : World, W = w.alloc (.cells #[.int .i64 x, .bool false, .int .i64 p, .bool s] 33) := ⟨_, rfl⟩
  have HX := Aside0.mk (show W.heap[w.heap.size]? = some (.cells #[.int .i64 x, .bool false, .int .i64 p, .bool s] 33 (0, 0)) by rw [hW]; exact blk_new _ _)
  have HL := Aside0.mk (show W.heap[g]? = some (.cells #[.int .i64 a, .int .i64 b, .int .i64 c, .int .i64 l] 90 (0, 0)) by rw [hW]; exact blk_alloc hl _)
  have HB := Aside0.mk (show w.grownBy W (some g) by rw [hW]; exact grown_of_below (below_alloc (Below.refl _ _) _) _)
  rw [← hW]
  clear hW hl
  have hz1 := blk_lt HX.out
  have hz2 := blk_lt HL.out
  have b0 : W.cell? ⟨w.heap.size, 0, none⟩ = some (.int .i64 x) := (blk_cell HX.out 0).trans rfl
  have b1 : W.cell? ⟨w.heap.size, 1, none⟩ = some (.bool false) := (blk_cell HX.out 1).trans rfl
  have b2 : W.cell? ⟨w.heap.size, 2, none⟩ = some (.int .i64 p) := (blk_cell HX.out 2).trans rfl
  have b3 : W.cell? ⟨w.heap.size, 3, none⟩ = some (.bool s) := (blk_cell HX.out 3).trans rfl
  go_region_with (first | (go_at_call 50; refine (PBaroNone.baro_kind.calls x false p s 2 _ HK.out).mono ?_; rintro e w1 ⟨rfl, hb⟩; have fg : w1.frozen? ⟨g, 2, none⟩ = false := (hb.frozen (p := ⟨g, 2, none⟩) hz2).trans (blk_frozen HL.out 2); have dg : w1.cell? ⟨g, 2, none⟩ = some (.int .i64 c) := (hb.cell (p := ⟨g, 2, none⟩) hz2).trans ((blk_cell HL.out 2).trans rfl)))
  have HX1 := Aside0.mk (blk_far (p := ⟨g, 2, none⟩) (blk_below (show W.drew.heap[w.heap.size]? = _ from HX.out) hb) (fun e => by have : w.heap.size = g := e; omega) (.int .i64 (IntKind.i64.wrap (c + 1))))
  have HL1 := Aside0.mk (blk_set (blk_below (show W.drew.heap[g]? = _ from HL.out) hb) 2 (.int .i64 (IntKind.i64.wrap (c + 1))))
  have HB1 := Aside0.mk (gb_set (gb_below (gb_below HB.out (below_drew (Below.refl _ _))) hb) 2 (.int .i64 (IntKind.i64.wrap (c + 1))))
  rw [show IntKind.i64.wrap (c + 1) = c + 1 by rw [IntKind.wrap_i64]; omega] at HX1 HL1 HB1 ⊢
  clear fg dg b0 b1 b2 b3 HX HL HB HK
  obtain ⟨W2, hW2⟩ : ∃ W2 : World, W2 = w1.setCell ⟨g, 2, none⟩ (.int .i64 (c + 1)) := ⟨_, rfl⟩
  rw [← hW2] at HX1 HL1 HB1 ⊢
  clear hW2
  have b0 : W2.cell? ⟨w.heap.size, 0, none⟩ = some (.int .i64 x) := (blk_cell HX1.out 0).trans rfl
  have b1 : W2.cell? ⟨w.heap.size, 1, none⟩ = some (.bool false) := (blk_cell HX1.out 1).trans rfl
  have b2 : W2.cell? ⟨w.heap.size, 2, none⟩ = some (.int .i64 p) := (blk_cell HX1.out 2).trans rfl
  have b3 : W2.cell? ⟨w.heap.size, 3, none⟩ = some (.bool s) := (blk_cell HX1.out 3).trans rfl
  go_wp2_with (first | (go_at_call 19; refine (PBaroNone.baro_Brings.calls x false p s 0 false _ HBR.out).mono ?_; rintro e w3 ⟨rfl, hb3⟩))
  go_ret2
  exact ⟨rfl, blk_below HL1.out hb3, gb_below HB1.out hb3⟩
end Go.Proofs.Ytoknlaknffpigaa.Bw
