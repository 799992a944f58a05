/- A clock behind an event (layer 19), in plain numbers: what the program and the document's reference compute are one function. -/
import Derived.Test.YtoknlaknffpigaaPModeOnx1
import Derived.Test.YtoknlaknffpigaaPModeOnx2
namespace Go.Proofs.Ytoknlaknffpigaa.Mp
open Go.RowKit Go.Proofs.YtoknlaknffpigaaW.PrintWords Go.Proofs.YtoknlaknffpigaaW.PrintLast Go.Proofs.Ytoknlaknffpigaa.PModeOn

def valid (m : Int) : Bool := m == 1 || m == 2
def seeks (m : Int) : Bool := m == 0 || m == 3
def missed (s c o : Int) : Int × Int := if wrap64 (s + 1) > o then (3, 0) else if wrap64 (s + 1) ≥ c then (2, wrap64 (s + 1)) else (1, wrap64 (s + 1))
def on (q : Int × Int) (e c o : Int) : Int × Int :=
  if valid q.1 || seeks q.1 then (if e = 3 then (3, 0) else if e = 0 then (1, 0) else if valid q.1 then (if e = 1 then (1, 0) else if e = 2 then missed q.2 c o else q) else q) else q

theorem valid_f (m s : Int) : mode_Clock_Valid.f m s = some (valid m) := by
  unfold mode_Clock_Valid.f valid
  by_cases h : m = 1
  · simp [h]
  · simp [h]
theorem seeks_f (m s : Int) : mode_Clock_Seeks.f m s = some (seeks m) := by
  unfold mode_Clock_Seeks.f seeks
  by_cases h : m = 0
  · simp [h]
  · simp [h]
theorem missed_f (m s c o : Int) : mode_Clock_missed.f m s c o = some (missed s c o) := by
  unfold mode_Clock_missed.f missed
  split
  · rfl
  · split <;> rfl

theorem on_f (m s e c o : Int) : mode_Clock_On.f (0 + 1 + 1 + 1 + 1) m s e c o = some (on (m, s) e c o) := by
  unfold mode_Clock_On.f
  rw [valid_f, seeks_f]
  simp only [Option.bind_some, mode_Clock_On.j0, mode_Clock_On.j1, mode_Clock_On.j2, mode_Clock_On.j3, valid_f, missed_f, on]
  by_cases e3 : e = 3
  · cases hv : valid m <;> cases hs : seeks m <;> simp [e3]
  · by_cases e0 : e = 0
    · cases hv : valid m <;> cases hs : seeks m <;> simp [e0]
    · by_cases e1 : e = 1
      · cases hv : valid m <;> cases hs : seeks m <;> simp [e1]
      · by_cases e2 : e = 2
        · cases hv : valid m <;> cases hs : seeks m <;> simp [e2]
        · cases hv : valid m <;> cases hs : seeks m <;> simp [e0, e1, e2, e3]

theorem ref_f (m s e c o : Int) : aneroidref19_Clock_On.f (0 + 1 + 1) m s e c o = some (on (m, s) e c o) := by
  unfold aneroidref19_Clock_On.f
  simp only [aneroidref19_Clock_On.j0, aneroidref19_Clock_On.j1, on, missed]
  by_cases hm : m < 0
  · have hv : valid m = false := by simp [valid]; omega
    have hs : seeks m = false := by simp [seeks]; omega
    rw [if_pos hm]
    simp [hv, hs]
  · rw [if_neg hm]
    by_cases hm3 : m > 3
    · have hv : valid m = false := by simp [valid]; omega
      have hs : seeks m = false := by simp [seeks]; omega
      rw [if_pos hm3]
      simp [hv, hs]
    · rw [if_neg hm3]
      by_cases he : e < 0
      · rw [if_pos he]
        have e0 : e ≠ 0 := by omega
        have e1 : e ≠ 1 := by omega
        have e2 : e ≠ 2 := by omega
        have e3 : e ≠ 3 := by omega
        cases hv : valid m <;> cases hs : seeks m <;> simp [e0, e1, e2, e3]
      · rw [if_neg he]
        by_cases he3 : e > 3
        · have e0 : e ≠ 0 := by omega
          have e1 : e ≠ 1 := by omega
          have e2 : e ≠ 2 := by omega
          have e3 : e ≠ 3 := by omega
          rw [decide_eq_true he3]
          cases hv : valid m <;> cases hs : seeks m <;> simp [e0, e1, e2, e3]
        · rw [decide_eq_false he3]
          have hmm : m = 0 ∨ m = 1 ∨ m = 2 ∨ m = 3 := by omega
          have hee : e = 0 ∨ e = 1 ∨ e = 2 ∨ e = 3 := by omega
          rcases hmm with rfl | rfl | rfl | rfl <;> rcases hee with rfl | rfl | rfl | rfl <;> simp [valid, seeks] <;> (repeat' split) <;> simp

theorem on_any (w : World) (m s e c o : Int) : Calls Try.prog 34 #[.agg #[.int .i64 m, .int .i64 s], .int .i64 e, .int .i64 c, .int .i64 o] w fun en w' =>
    en = .returned (.agg #[.int .i64 (on (m, s) e c o).1, .int .i64 (on (m, s) e c o).2]) ∧ Below w.heap.size w w' :=
  mode_Clock_On.calls _ m s e c o _ _ w (on_f m s e c o)
theorem refOn_any (w : World) (m s e c o : Int) : Calls Try.prog 35 #[.agg #[.int .i64 m, .int .i64 s], .int .i64 e, .int .i64 c, .int .i64 o] w fun en w' =>
    en = .returned (.agg #[.int .i64 (on (m, s) e c o).1, .int .i64 (on (m, s) e c o).2]) ∧ Below w.heap.size w w' :=
  aneroidref19_Clock_On.calls _ m s e c o _ _ w (ref_f m s e c o)
theorem valid_any (w : World) (m s : Int) : Calls Try.prog 36 #[.agg #[.int .i64 m, .int .i64 s]] w fun en w' => en = .returned (.bool (valid m)) ∧ Below w.heap.size w w' :=
  mode_Clock_Valid.calls m s _ w (valid_f m s)
theorem seeks_any (w : World) (m s : Int) : Calls Try.prog 37 #[.agg #[.int .i64 m, .int .i64 s]] w fun en w' => en = .returned (.bool (seeks m)) ∧ Below w.heap.size w w' :=
  mode_Clock_Seeks.calls m s _ w (seeks_f m s)

/-- The clock behind events, from Init, since 0, on. -/
def after (c o : Int) (l : List Int) : Int × Int := l.foldl (fun q e => on q e c o) (0, 0)
theorem after_snoc (c o : Int) (l : List Int) (e : Int) : after c o (l ++ [e]) = on (after c o l) e c o := by simp [after, List.foldl_append]
/-- The clocks behind the first k events, one behind the other. -/
def runs (c o : Int) (l : List Int) (k : Nat) : List (Int × Int) := (List.range k).map fun j => after c o (l.take (j + 1))
theorem runs_succ (c o : Int) (l : List Int) (k : Nat) : runs c o l (k + 1) = runs c o l k ++ [after c o (l.take (k + 1))] := by simp [runs, List.range_succ]
theorem runs_length (c o : Int) (l : List Int) (k : Nat) : (runs c o l k).length = k := by simp [runs]
theorem rd_take (l : List Int) (k : Nat) (h : k < l.length) : l.take (k + 1) = l.take k ++ [rd l (k : Int)] := by
  rw [List.take_succ_eq_append_getElem h]
  congr 2
  unfold rd
  simp [List.getD_eq_getElem?_getD, List.getElem?_eq_getElem h]
theorem after_succ (c o : Int) (l : List Int) (k : Nat) (h : k < l.length) : after c o (l.take (k + 1)) = on (after c o (l.take k)) (rd l (k : Int)) c o := by
  rw [rd_take l k h, after_snoc]
end Go.Proofs.Ytoknlaknffpigaa.Mp
