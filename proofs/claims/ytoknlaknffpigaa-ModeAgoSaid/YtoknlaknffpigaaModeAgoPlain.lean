/- How long ago a sample was taken (layer 19), in plain numbers: what holds of each clock behind events from 0 to 3. -/
import Derived.Test.YtoknlaknffpigaaModePlain
namespace Go.Proofs.Ytoknlaknffpigaa.Mp
open Go.RowKit Go.Proofs.YtoknlaknffpigaaW.PrintWords Go.Proofs.YtoknlaknffpigaaW.PrintLast

structure Ago (co ou : Int) (el : List Int) (k : Nat) (q : Int × Int) : Prop where
  m : q.1 = 0 ∨ q.1 = 1 ∨ q.1 = 2 ∨ q.1 = 3
  inv : valid q.1 = false → q.2 = 0
  lo : valid q.1 = true → 0 ≤ q.2 ∧ q.2 ≤ ou ∧ q.2 < k
  ev : valid q.1 = true → rd el ((k : Int) - 1 - q.2) = 0 ∨ rd el ((k : Int) - 1 - q.2) = 1
  two : valid q.1 = true → (q.1 = 2 ↔ (q.2 ≥ co ∧ q.2 > 0))
  miss : valid q.1 = true → ∀ j : Nat, (k : Int) - q.2 ≤ j → j < k → rd el j = 2 ∧ valid (after co ou (el.take j)).1 = true

theorem ago_all (co ou : Int) (el : List Int) (hou : 0 ≤ ou) (hn : el.length ≤ 1000) (he : ∀ i : Nat, i < el.length → 0 ≤ rd el i ∧ rd el i ≤ 3) :
    ∀ k : Nat, k ≤ el.length → Ago co ou el k (after co ou (el.take k)) := by
  intro k
  induction k with
  | zero =>
    intro _
    have h : after co ou (el.take 0) = (0, 0) := rfl
    rw [h]
    exact ⟨.inl rfl, fun _ => rfl, fun h => (by cases h), fun h => (by cases h), fun h => (by cases h), fun h => (by cases h)⟩
  | succ k ih =>
    intro hk
    have I := ih (by omega)
    have hs := after_succ co ou el k (by omega)
    obtain ⟨e0, e3⟩ := he k (by omega)
    rw [hs]
    generalize hq : after co ou (el.take k) = q at I hs ⊢
    have hvs : (valid q.1 || seeks q.1) = true := by rcases I.m with h | h | h | h <;> rw [h] <;> rfl
    have fresh : ∀ e', rd el (k : Int) = e' → (e' = 0 ∨ e' = 1) → Ago co ou el (k + 1) (1, 0) := by
      intro e' h1 h2
      have hi : ((k + 1 : Nat) : Int) - 1 - 0 = k := by omega
      refine ⟨.inr (.inl rfl), fun h => (by cases h), fun _ => ⟨Int.le_refl _, hou, by simp⟩, fun _ => ?_, fun _ => (by simp), fun _ j h1 h2 => (by simp at h1; omega)⟩
      show rd el (((k + 1 : Nat) : Int) - 1 - 0) = 0 ∨ _
      rw [hi, h1]
      rcases h2 with h2 | h2
      · exact .inl h2
      · right
        exact h2
    have lost : Ago co ou el (k + 1) (3, 0) := ⟨.inr (.inr (.inr rfl)), fun _ => rfl, fun h => (by cases h), fun h => (by cases h), fun h => (by cases h), fun h => (by cases h)⟩
    unfold on
    rw [if_pos hvs]
    split
    · exact lost
    · split
      · rename_i h
        exact fresh 0 h (.inl rfl)
      · split
        · rename_i hv
          split
          · rename_i h
            exact fresh 1 h (.inr rfl)
          · split
            · rename_i h2
              obtain ⟨l0, l1, l2⟩ := I.lo hv
              have hw : wrap64 (q.2 + 1) = q.2 + 1 := by unfold wrap64; omega
              unfold missed
              rw [hw]
              have step : ∀ m, (m = 1 ∨ m = 2) → (m = 2 ↔ (q.2 + 1 ≥ co ∧ q.2 + 1 > 0)) → q.2 + 1 ≤ ou → Ago co ou el (k + 1) (m, q.2 + 1) := by
                intro m hm h2m hle
                have hvm : valid m = true := by rcases hm with rfl | rfl <;> rfl
                refine ⟨by rcases hm with rfl | rfl <;> simp, fun h => (by rw [hvm] at h; cases h), fun _ => ⟨by simp; omega, hle, by simp; omega⟩, fun _ => ?_, fun _ => h2m, fun _ j h3 h4 => ?_⟩
                · have e1 : ((k + 1 : Nat) : Int) - 1 - (q.2 + 1) = (k : Int) - 1 - q.2 := by omega
                  show rd el (((k + 1 : Nat) : Int) - 1 - (q.2 + 1)) = 0 ∨ rd el (((k + 1 : Nat) : Int) - 1 - (q.2 + 1)) = 1
                  rw [e1]
                  exact I.ev hv
                · have h3' : ((k + 1 : Nat) : Int) - (q.2 + 1) ≤ j := h3
                  by_cases hj : j = k
                  · subst hj
                    rw [hq]
                    exact ⟨h2, hv⟩
                  · exact I.miss hv j (by omega) (by omega)
              split
              · exact lost
              · split
                · exact step 2 (.inr rfl) (by constructor <;> intro _ <;> first | omega | (constructor <;> omega)) (by omega)
                · exact step 1 (.inl rfl) (by constructor <;> intro _ <;> omega) (by omega)
            · omega
        · rename_i hv
          have hv' : valid q.1 = false := by simpa using hv
          exact ⟨I.m, I.inv, fun h => absurd h hv, fun h => absurd h hv, fun h => absurd h hv, fun h => absurd h hv⟩
end Go.Proofs.Ytoknlaknffpigaa.Mp
