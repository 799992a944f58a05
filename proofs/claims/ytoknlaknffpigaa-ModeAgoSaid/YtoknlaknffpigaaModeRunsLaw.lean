/- The clocks behind any events are the document's, one behind the other: the walk of the law ModeRuns of layer 19. -/
import Derived.Test.YtoknlaknffpigaaModeFixed
import Derived.Deep.QuietTactic
import Derived.BigQuiet
namespace Go.Proofs.Ytoknlaknffpigaa.Mi
open Go.RowKit Go.Proofs.YtoknlaknffpigaaW.PrintWords Go.Proofs.YtoknlaknffpigaaW.PrintLast Go.Proofs.YtoknlaknffpigaaW.PrintMore Go.Proofs.Ytoknlaknffpigaa.Mp

/-- The row of clocks lies in the world. -/
def RowAt (w : World) (A : Option Addr) (l : List (Int × Int)) : Prop :=
  0 < l.length → ∃ g cs, A = some ⟨g, 0, none⟩ ∧ w.heap[g]? = some (.cells cs 55 (0, 0)) ∧ ∀ j p, l[j]? = some p → cs[j * 2]? = some (.int .i64 p.1) ∧ cs[j * 2 + 1]? = some (.int .i64 p.2)

theorem flat_get (l : List (Int × Int)) : ∀ (j : Nat) (p : Int × Int), l[j]? = some p → (flat l)[j * 2]? = some (.int .i64 p.1) ∧ (flat l)[j * 2 + 1]? = some (.int .i64 p.2) := by
  induction l with
  | nil => intro j p h; simp at h
  | cons q t ih =>
    intro j p h
    cases j with
    | zero => simp at h; subst h; exact ⟨rfl, rfl⟩
    | succ j =>
      have h2 := ih j p (by simpa using h)
      rw [show (j + 1) * 2 = j * 2 + 1 + 1 by omega]
      simpa [flat] using h2

theorem rowAt_of {w : World} {base : Nat} {v : Value} {l : List (Int × Int)} {n : Nat} (hn : n = l.length) (h : w.ownsRow base 55 2 v n (flat l)) : ∃ A c, v = .slice A n c ∧ RowAt w A l ∧ n ≤ c := by
  subst hn
  cases l with
  | nil =>
    rcases h.2 with ⟨rfl, h0⟩ | ⟨g, cp, cur, rfl, h1, hgb, h2⟩
    · exact ⟨none, 0, rfl, fun h => absurd h (by simp), Nat.le_refl _⟩
    · exact ⟨_, _, rfl, fun h => absurd h (by simp), Nat.zero_le _⟩
  | cons q t =>
    obtain ⟨g, c, rfl⟩ := ownsRow_succ h
    rcases h.2 with ⟨h1, h0⟩ | ⟨g', cp, cur, h1, h3, hgb, h4⟩
    · cases h1
    · cases h1
      refine ⟨_, _, rfl, fun _ => ⟨g, cur, rfl, hgb, fun j p hj => ?_⟩, h4.1⟩
      have hlt : j < (q :: t).length := (List.getElem?_eq_some_iff.1 hj).1
      obtain ⟨k0, k1⟩ := flat_get _ j p hj
      rw [← h4.2.2.2] at k0 k1
      rw [List.getElem?_take_of_lt (by omega)] at k0 k1
      exact ⟨by simpa using k0, by simpa using k1⟩

theorem RowAt.keep {w w' : World} {A : Option Addr} {l : List (Int × Int)} (h : RowAt w A l) (hk : ∀ (g : Nat) (cs : Array Value), w.heap[g]? = some (Obj.cells cs 55 (0, 0)) → w'.heap[g]? = some (Obj.cells cs 55 (0, 0))) : RowAt w' A l := by
  intro h0
  obtain ⟨g, cs, e, hb, hc⟩ := h h0
  exact ⟨g, cs, e, hk g cs hb, hc⟩

set_option maxRecDepth 100000 in
set_option maxHeartbeats 4000000 in
theorem lawRuns_any (w : World) (A : Option Addr) (cap : Nat) (evs : List Int) (co ou : Int) (hr : Kd.C (Kd.int .i64) w A evs.length evs) :
    Calls Try.prog 9 #[.slice A evs.length cap, .int .i64 co, .int .i64 ou] w fun e w' => e = .returned (.bool true) ∧ Below w.heap.size w w' := by
  have HR := Aside0.mk hr
  have hmax : evs.length ≤ 9223372036854775807 := hr.2.1
  clear hr
  by_cases hl : 300 < evs.length
  · have h1 : decide ((300 : Int) < (evs.length : Int)) = true := decide_eq_true (by omega)
    go_enter Try.func9, Try.ntmps9
    go_wp2_with (first | (go_at_call 33; refine (fixed_any _).mono ?_; rintro e w1 ⟨rfl, hb⟩))
    go_ret
    exact ⟨rfl, hb⟩
  · have h1 : decide ((300 : Int) < (evs.length : Int)) = false := decide_eq_false (by omega)
    go_enter Try.func9, Try.ntmps9
    go_wp2_with fail
    refine (run_any w A cap evs co ou HR.out (by omega)).mono ?_
    rintro e w1 ⟨v, rfl, hown, hb⟩
    obtain ⟨RA, rc, rfl, hrow, hrc⟩ := rowAt_of (runs_length _ _ _ _).symm hown
    have HROW := Aside0.mk hrow
    have HB := Aside0.mk hb
    clear hrow hb hown
    go_wp2_with fail
    have HD0 : Aside0 ((w1.alloc (.cells #[.int .i64 0, .int .i64 0] 58)).heap[w1.heap.size]? = some (.cells #[.int .i64 (after co ou (evs.take 0)).1, .int .i64 (after co ou (evs.take 0)).2] 58 (0, 0))) := ⟨blk_new _ _⟩
    have HW0 : Aside0 (RowAt (w1.alloc (.cells #[.int .i64 0, .int .i64 0] 58)) RA (runs co ou evs evs.length)) := ⟨HROW.out.keep fun g cs h => blk_alloc h _⟩
    have HB0 : Aside0 (Below w.heap.size w (w1.alloc (.cells #[.int .i64 0, .int .i64 0] 58))) := ⟨below_alloc HB.out _⟩
    have hs1 : w.heap.size ≤ w1.heap.size := HB.out.size
    generalize w1.alloc (.cells #[.int .i64 0, .int .i64 0] 58) = w2 at HD0 HW0 HB0 ⊢
    generalize w1.heap.size = b8 at HD0 hs1 ⊢
    clear HB HROW
    go_loopw [27] (fun v27 wr => ∃ k : Nat, k ≤ evs.length ∧ v27 = .int .i64 k ∧ Aside0 (wr.heap[b8]? = some (.cells #[.int .i64 (after co ou (evs.take k)).1, .int .i64 (after co ou (evs.take k)).2] 58 (0, 0))) ∧ Aside0 (RowAt wr RA (runs co ou evs evs.length)) ∧ Aside0 (Below w.heap.size w wr)) (fun v27 _ => evs.length - (intOf v27).toNat)
    case atStart => exact ⟨0, Nat.zero_le _, rfl, HD0, HW0, HB0⟩
    case round =>
      clear HD0 HW0 HB0
      obtain ⟨k, hk, rfl, HD, HW, HB⟩ := hrel
      by_cases hlt : k < evs.length
      · have p0 : (0 : Int) ≤ (k : Int) := Int.natCast_nonneg _
        have q0 : (k : Int) < (evs.length : Int) := by omega
        obtain ⟨ad, c0, e, _, _, _⟩ := Kd.C_get HR.out (0 : Int) (k : Int) p0 q0
        cases e
        have hx := Kd.foot_int HR.out (k : Int) p0 q0
        rw [Int.toNat_natCast] at hx
        replace hx := (HB.out.cell (World.block_lt_of_cell? w _ hx)).trans hx
        have HN := Aside0.mk (after_succ co ou evs k hlt)
        have HG : (runs co ou evs evs.length)[k]? = some (after co ou (evs.take (k + 1))) := by
          simp [runs, List.getElem?_map, List.getElem?_range hlt]
        generalize after co ou (evs.take k) = q at HD HN
        generalize rd evs (k : Int) = ev at hx HN
        obtain ⟨q1, q2⟩ := q
        have d0 : wr.cell? ⟨b8, 0, none⟩ = some (.int .i64 q1) := (blk_cell HD.out 0).trans rfl
        have d1 : wr.cell? ⟨b8, 1, none⟩ = some (.int .i64 q2) := (blk_cell HD.out 1).trans rfl
        go_wp2_with fail
        refine (refOn_any wr q1 q2 ev co ou).mono ?_
        rintro e w3 ⟨rfl, hb3⟩
        rw [← HN.out]
        clear HN
        obtain ⟨q', hq'⟩ : ∃ q', q' = after co ou (evs.take (k + 1)) := ⟨_, rfl⟩
        rw [← hq'] at HG ⊢
        have HQ' := Aside0.mk hq'
        clear hq'
        obtain ⟨g, cs, rfl, hg, hcs⟩ := HW.out (by rw [runs_length]; omega)
        obtain ⟨c0, c1⟩ := hcs k q' HG
        clear hcs HG d0 d1
        have HD3 := Aside0.mk (blk_below HD.out hb3)
        have HG3 := Aside0.mk (blk_below hg hb3)
        have ne : g ≠ b8 := by
          intro e
          rw [e, HD.out] at hg
          injection hg with hg
          injection hg with _ hg
          cases hg
        have HB3 := Aside0.mk (HB.out.trans (hb3.mono HB.out.size))
        have HW3 := Aside0.mk (HW.out.keep fun g cs h => blk_below h hb3)
        clear HD hg hb3 HB HW
        have f0 : w3.frozen? ⟨b8, 0, none⟩ = false := blk_frozen HD3.out 0
        have f1 : w3.frozen? ⟨b8, 1, none⟩ = false := blk_frozen HD3.out 1
        have d0 : w3.cell? ⟨b8, 0, none⟩ = some (.int .i64 q1) := (blk_cell HD3.out 0).trans rfl
        have d1 : w3.cell? ⟨b8, 1, none⟩ = some (.int .i64 q2) := (blk_cell HD3.out 1).trans rfl
        have HD5 := Aside0.mk (blk_set (blk_set HD3.out 0 (.int .i64 q'.1)) 1 (.int .i64 q'.2))
        have HG5 := Aside0.mk (blk_far (p := ⟨b8, 1, none⟩) (blk_far (p := ⟨b8, 0, none⟩) HG3.out ne (.int .i64 q'.1)) ne (.int .i64 q'.2))
        have HB5 := Aside0.mk ((HB3.out.setCell (p := ⟨b8, 0, none⟩) hs1 (.int .i64 q'.1)).setCell (p := ⟨b8, 1, none⟩) hs1 (.int .i64 q'.2))
        go_wp2_with fail
        have HW5 := Aside0.mk (HW3.out.keep fun g cs h => blk_far (p := ⟨b8, 1, none⟩) (blk_far (p := ⟨b8, 0, none⟩) h (fun e => by
          rw [e, HD3.out] at h
          injection h with h
          injection h with _ h
          cases h) (.int .i64 q'.1)) (fun e => by
          rw [e, HD3.out] at h
          injection h with h
          injection h with _ h
          cases h) (.int .i64 q'.2))
        clear d0 d1 f0 f1 HD3 HG3 HB3 HW3
        generalize (w3.setCell ⟨b8, 0, none⟩ (.int .i64 q'.1)).setCell ⟨b8, 1, none⟩ (.int .i64 q'.2) = w5 at HD5 HG5 HB5 HW5 ⊢
        have d0 : w5.cell? ⟨b8, 0, none⟩ = some (.int .i64 q'.1) := (blk_cell HD5.out 0).trans rfl
        have d1 : w5.cell? ⟨b8, 1, none⟩ = some (.int .i64 q'.2) := (blk_cell HD5.out 1).trans rfl
        have g0 : w5.cell? ⟨g, k * 2, none⟩ = some (.int .i64 q'.1) := (blk_cell HG5.out _).trans c0
        have g1 : w5.cell? ⟨g, k * 2 + 1, none⟩ = some (.int .i64 q'.2) := (blk_cell HG5.out _).trans c1
        have ht : (Int.toNat (k : Int)) = k := Int.toNat_natCast k
        clear c0 c1
        have b0 : (q'.1 != q'.1) = false := by simp
        have b1 : (q'.2 != q'.2) = false := by simp
        go_quiet (fail)
        go_wp2
        go_roundw
        case rel => exact ⟨k + 1, by omega, by go_num, ⟨by rw [← HQ'.out]; exact HD5.out⟩, ⟨HW5.out.keep fun g cs h => blk_drewN h _⟩, ⟨pw_below_drewN HB5.out _⟩⟩
        case measure => simp [intOf]; omega
      · have hk2 : k = evs.length := by omega
        subst hk2
        go_wp2_with (first | (go_at_call 33; refine (fixed_any _).mono ?_; rintro e w1 ⟨rfl, hb⟩))
        go_ret
        exact ⟨rfl, below_step HB.out hb⟩

theorem lawRuns_row (w : World) (a0 : Option Addr) (len0 cap0 : Nat) (z0 : List Int) (co ou : Int)
    (w0 : (a0 = none ∧ len0 = 0 ∧ cap0 = 0 ∧ z0 = []) ∨ ∃ x, a0 = some x ∧ len0 ≤ cap0 ∧ cap0 ≤ maxLen ∧ z0.length = cap0 ∧ (∀ i, i < z0.length → w.cell? (x.add i) = some (.int .i64 (z0.getD i 0))) ∧ ∀ n ∈ z0, (Lit.int .i64 n).wf = true) :
    Calls Try.prog 9 #[.slice a0 len0 cap0, .int .i64 co, .int .i64 ou] w fun e w' => e = .returned (.bool true) ∧ Below w.heap.size w w' := by
  obtain ⟨l0, rfl, hr0, _, _, _⟩ := ReadsInt.ofRowC w0
  exact lawRuns_any w a0 cap0 l0 co ou (Kd.C_of_reads (d := (0 : Int)) (h1 := fun _ => rfl) hr0)
end Go.Proofs.Ytoknlaknffpigaa.Mi
