/- A part of the proof of TopAgain, where the package's tables hold what their initialisers lay. -/
import Derived.OrdersIn
import Derived.RangeFuncNested
import Derived.RangeFuncBound
import Derived.RangeFuncBox
import Derived.RangeFuncCalls
import Derived.RangeFuncLeaves
import Derived.OwnWalkIn
import Derived.TacticsInMore
import Derived.WalkMore
import Derived.Deep.WholeRow
import Derived.Deep.MidRow
import Derived.Test.YtpdahkgandaabaaGreatDoorT01
import Derived.Test.YtpdahkgandaabaaGreatDoorT03
import Derived.Test.YtpdahkgandaabaaGreatDoorT05
import Derived.Test.YtpdahkgandaabaaGreatDoorT06
import Derived.Test.YtpdahkgandaabaaGreatDoorT08
namespace Go.Proofs.YtpdahkgandaabaaGreatDoor.Ch
open Go.RowKit Go.Proofs.YtpdahkgandaabaaGreatDoorW.PrintLast
section
variable {P : Program} {ops : Array Oper} {Q : Exit → Act → World → Prop} {md : Region.Mode} {S : World → Prop} {ds : List Nat}
def calmOp (o : Oper) : Bool := match o.op with
 | .defer _ => false
 | _ => true
theorem calmOp_spec {o : Oper} (h : calmOp o = true) : ∀ c, o.op ≠ .defer c := by
 intro c e
 simp [calmOp, e] at h
theorem wpIn_of_wp_op {r n : Nat} {o : Oper} {a : Act} {w : World} {K : Act → World → Prop} (hd : ∀ c, o.op ≠ .defer c) (h : o.wp P a w K Q) : o.wpIn (Fence.wide.inRound r) n P a w K Q := by
 refine ⟨fun _ _ => trivial, ?_⟩
 rw [Fence.inRound_round, Oper.semAt_some r _ _ hd]
 unfold Oper.wp at h
 generalize (execOp a.eval o).run P w = q at h ⊢
 cases q with
 | ok x w' =>
  cases x <;> simp only [Oper.upon, Oper.uponIn] at h ⊢ <;>
   first
    | exact h
    | exact ⟨fun h0 => by simp [Fence.wide] at h0, (callsIn_wide.2 h).inRound r⟩
    | exact ⟨fun h0 => by simp [Fence.wide] at h0, fun c cs _ => let ⟨v, w', r, s⟩ := h c cs; ⟨v, w', r, stepsIn_wide.2 s⟩⟩
    | exact h.elim
 | halt x w' => cases x <;> simp only [Oper.upon, Oper.uponIn] at h ⊢ <;> exact h
theorem wpOpIn_of {r n : Nat} (hd : ops.all calmOp = true) (hQ : ¬ LetsOut Q) {i : Nat} {K K' : Act → World → Prop} (hK : ∀ a w, K a w → K' a w) {a : Act} {w : World} (h : wpOp P ops Q i K a w) : wpOpIn (Fence.wide.inRound r) n P ops Q i K' a w := by
 unfold wpOp at h
 unfold wpOpIn
 cases ho : ops[i]? with
 | none => rw [ho] at h; exact hK _ _ h
 | some o =>
  rw [ho] at h
  simp only at h ⊢
  have hc : ∀ c, o.op ≠ .defer c := calmOp_spec (Array.all_eq_true_iff_forall_mem.1 hd o (Array.mem_of_getElem? ho))
  by_cases hw : Region.wanted o (yielded ops a.tmps) = true
  ·
   rw [if_pos hw] at h ⊢
   rcases h with h | ⟨_, h⟩
   ·
    exact Oper.wpIn_mono hK (wpIn_of_wp_op hc h)
   exact absurd h hQ
  rw [if_neg hw] at h ⊢
  exact ⟨fun _ _ => trivial, hK _ _ h⟩
theorem wpAnyIn_of {r n : Nat} (hd : ops.all calmOp = true) (hQ : ¬ LetsOut Q) : ∀ (fuel : Nat) (l : Array Bool) (a : Act) (w : World), wpAny P md ops Q fuel l a w → wpAnyIn (Fence.wide.inRound r) n P md ops Q fuel l a w
 | 0, _, _, _, h => h
 | fuel + 1, _, _, _, h => ⟨h.1, fun i hi => wpOpIn_of hd hQ (fun a w => wpAnyIn_of hd hQ fuel _ a w) (h.2 i hi)⟩
theorem startIn_ {id n r m : Nat} {a : Act} {w : World} (l : Array Bool) (hm : P.follows .mixedOrders = true) (hd : ops.all calmOp = true) (hQ : ¬ LetsOut Q) (hn : ops.size = n) (hl : Array.replicate n false = l) (hS : S w.drew)
  (h : S w.drew → wpAnyLast P .any ops Q S ds n l a w.drew) : (Code.region id ops true).wpIn (Fence.wide.inRound r) m P Q a w := by
 subst hn
 subst hl
 exact wpIn_region_any hm (wpAnyIn_of hd hQ _ _ _ _ (wpAny_of_last _ _ _ _ (h hS)))
end
section
variable {F : Fence} {n : Nat} {P : Program}
def goesOn {α : Type} (B : Nat) (Kp : World → World → Prop) (I : List α → World → Prop) (xs : List α) (W : World) : Exit → Act → World → Prop
 | .normal, _, W' => KeepsFrom B W W' ∧ Kp W W' ∧ I xs W'
 | _, _, _ => False
theorem range_on {α : Type} {g : Operand} {ps : Array Tmp} {assign body : Code} {Q : Exit → Act → World → Prop} {a : Act} {w : World}
  (hro : F.round = none) (h1 : 1 ≤ n) {gf : Nat} {lb : Array Value} (hg : a.eval g = .func (.func gf) #[] lb) (hFg : F.fn gf) (eg : ∀ args w, (callFunc gf args).run P w = .ok (.enter gf args) w)
  {encs : α → Array Value} {Kp : World → World → Prop} {S : List α → Prop} {N : Nat}
  (hiter : ∀ (l : Nat) (J : List α → World → Prop) (W : World), Below w.heap.size w W → W.heap.size = w.heap.size + 2 → AbidesFrom W.heap.size J →
   (∀ pre x W1, J pre W1 → pre.length < N → YieldAt F (n - 1 - 1) P l (encs x) W1 fun e W' => e = .returned (.bool true) ∧ J (pre ++ [x]) W' ∧ Kp W1 W') →
   J [] W → CallsIn F (n - 1) P gf (#[.func (.yield l) #[] #[]] ++ lb) W fun e W' => (∃ v, e = .returned v) ∧ ∃ xs, S xs ∧ J xs W')
  (hKt : ∀ {A B C : World}, Kp A B → Kp B C → Kp A C) (hKb : ∀ (W : World) (l : Nat) (o o' : Obj), w.heap.size ≤ l → W.heap[l]? = some o → o.isCells = false → o.isWalk = false → Kp W (W.putObj l o')) (hps : ∀ x, (encs x).size = ps.size)
  (I : List α → World → Prop) (hI : OwnFrom w.heap.size I) (h0 : I [] w) (Ax : α → Act → World → Prop) (hAx : ∀ x a', OwnFrom w.heap.size (fun (_ : Unit) W => Ax x a' W))
  (hassign : ∀ (l : Nat) (pre : List α) (x : α) (W : World) (K : Act → World → Prop), I pre W → (∀ a' W', KeepsFrom w.heap.size W W' → Kp W W' → I pre W' → Ax x a' W' → K a' W') →
   assign.wpIn (F.inRound l) (n - 1 - 1) P (Exit.then K (fun _ _ _ => False)) { tmps := (ps.zip (encs x)).foldl (fun t (p, v) => t.setIfInBounds p v) a.tmps, defers := [] } W)
  (hbody : ∀ (l : Nat) (pre : List α) (x : α) (a' : Act) (W : World), w.heap.size ≤ l → I pre W → Ax x a' W → pre.length < N → body.wpIn (F.inRound l) (n - 1 - 1) P (goesOn w.heap.size Kp I (pre ++ [x]) W) a' W)
  (hdone : ∀ (D : Nat) (xs : List α) (W : World), w.heap.size ≤ D → S xs → I xs W → W.heap[D]? = some (.deferred (some [])) → Q .normal { a with defers := { target := .collected D, args := #[] } :: a.defers } W) :
  (Code.rangeFunc g ps assign body).wpIn F n P Q a w := by
 refine wpIn_rangeFunc ?_
 intro fn hfn
 rw [hro]
 obtain ⟨rec, hrec⟩ : ∃ rec : LoopState → Loop, rec = fun st => { state := st, pending := none, fn, tmps := a.tmps, params := ps, assign, body, defers := w.heap.size } := ⟨_, rfl⟩
 obtain ⟨W1, hW1⟩ : ∃ W1, (w.alloc (.deferred (some []))).alloc (.loop (rec .ready)) = W1 := ⟨_, rfl⟩
 have hz1 : W1.heap.size = w.heap.size + 2 := by rw [← hW1]; simp
 have hL1 : W1.heap[w.heap.size + 1]? = some (.loop (rec .ready)) := by
  rw [← hW1]
  have h := World.alloc_heap_new (w.alloc (.deferred (some []))) (.loop (rec .ready))
  rwa [World.size_alloc] at h
 have hK1 : W1.heap[w.heap.size]? = some (.deferred (some [])) := by
  rw [← hW1]
  exact (Below.heap_alloc _ _ _ (by simp)).trans (World.alloc_heap_new w _)
 have hI1 : I [] W1 := by rw [← hW1]; exact hI.alloc _ (hI.alloc _ h0)
 have hb1 : Below w.heap.size w W1 := by
  rw [← hW1]
  exact ((Below.refl _ w).alloc (Nat.le_refl _) _).alloc (by simp) _
 refine ⟨w.heap.size + 1, [{ target := .collected w.heap.size, args := #[] }], W1, { target := .fn (.func gf) lb, args := #[.func (.yield (w.heap.size + 1)) #[] #[]] }, W1, gf,
  #[.func (.yield (w.heap.size + 1)) #[] #[]] ++ lb, W1, ?_, ?_, ?_, ?_, fun _ => h1, ?_⟩
 ·
  rw [← hW1, hrec]
  exact run_enterLoop_outer _ _ _ _ _
 ·
  simp only [resolve, hg]
  simp [go_sem]
 ·
  intro f' hf'
  simp [Target.leads] at hf'
  subst hf'
  exact hFg
 ·
  simp [invoke, go_sem, eg]
 refine (hiter (w.heap.size + 1) (fun pre W => I pre W ∧ W.heap[w.heap.size + 1]? = some (.loop (rec .ready)) ∧ W.heap[w.heap.size]? = some (.deferred (some []))) W1 hb1 hz1 ?ab ?round ⟨hI1, hL1, hK1⟩).mono ?end_
 case ab =>
  intro s A B row hs hg' hr
  exact ⟨hI s A B row hs.1 hg' (fun r e => by obtain ⟨hB, o, ho, hw⟩ := hr r e; exact ⟨by omega, o, ho, Obj.not_cells_of_walk hw⟩),
   (grownBy_keeps hg' (fun r e => (hr r e).2) hs.2.1 rfl).trans hs.2.1, (grownBy_keeps hg' (fun r e => (hr r e).2) hs.2.2 rfl).trans hs.2.2⟩
 case round =>
  rintro pre x W ⟨hi, hl, hk⟩ hlen
  have hy := run_yield (P := P) (args := encs x) hl (by rw [hrec]; exact hps x)
  rw [hrec] at hy
  refine ⟨fn, _, assign, body, hy, roundIn_of_wpIn hfn (hassign _ pre x W _ hi ?_)⟩
  clear hy
  intro a' Wa hkfa hkpa hia hax
  have hla := hkfa.same _ _ (by omega) hl rfl
  have hka := hkfa.same _ _ (Nat.le_refl _) hk rfl
  have hlt : w.heap.size + 1 < Wa.heap.size := (Array.getElem?_eq_some_iff.1 hla).1
  refine ⟨_, run_beginRound hla (by rw [hrec]), ?_⟩
  have hl2 : (Wa.putObj (w.heap.size + 1) (.loop { rec .ready with state := .busy })).heap[w.heap.size + 1]? = some (.loop { rec .ready with state := .busy }) := World.putObj_heap_same hlt
  have hk2 : (Wa.putObj (w.heap.size + 1) (.loop { rec .ready with state := .busy })).heap[w.heap.size]? = some (.deferred (some [])) := (World.putObj_heap_other (by omega)).trans hka
  have hw2 : Kp Wa (Wa.putObj (w.heap.size + 1) (.loop { rec .ready with state := .busy })) := hKb _ _ _ _ (by omega) hla rfl rfl
  refine wpIn_mono (hbody _ pre x a' _ (by omega) (hI.putObj _ hia (by omega) hla rfl) ((hAx x a').putObj (s := ()) _ hax (by omega) hla rfl) hlen) ?_
  rintro e a3 W3 hp
  cases e with
  | normal =>
   obtain ⟨hk3, hkp3, hi3⟩ := hp
   have hl3 := hk3.same _ _ (by omega) hl2 rfl
   have hr := run_endRound (P := P) none hl3
   rw [hrec] at hr hl3
   refine ⟨_, _, hr, rfl, ⟨hI.putObj _ hi3 (by omega) hl3 rfl, ?_, (World.putObj_heap_other (by omega)).trans (hk3.same _ _ (Nat.le_refl _) hk2 rfl)⟩, hKt hkpa (hKt (hKt hw2 hkp3) (hKb _ _ _ _ (by omega) hl3 rfl rfl))⟩
   rw [hrec]
   exact World.putObj_heap_same (Array.getElem?_eq_some_iff.1 hl3).1
  | _ => exact hp.elim
 case end_ =>
  rintro e W2 ⟨⟨v, rfl⟩, xs, hS, hi, hl, hk⟩
  have hr := run_endLoop (P := P) hl (by rw [hrec]; simp)
  rw [hrec] at hr hl
  exact ⟨none, _, hr, hdone _ xs _ (Nat.le_refl _) hS (hI.putObj _ hi (by omega) hl rfl) ((World.putObj_heap_other (by omega)).trans hk)⟩
end
end Go.Proofs.YtpdahkgandaabaaGreatDoor.Ch
namespace Go.Proofs.YtpdahkgandaabaaGreatDoor.Ch
section
variable {P : Program} {a : Act} {w : World} {Q : Exit → Act → World → Prop}
def RoundAt (P : Program) (Q : Exit → Act → World → Prop) (c : Code) (a : Act) (w : World) : Prop :=
 ∀ (b : Frame) (k : List Item) (cs : List Frame), ∃ e a' w', Q e a' w' ∧ Arrives P (lone (b.at a (.code c :: .inLoop c :: k)) cs w) b k cs e a' w'
theorem round_at {c : Code} (h : c.wp P (Exit.then (RoundAt P Q c) Q) a w) : RoundAt P Q c a w := by
 intro b k cs
 obtain ⟨e, a₁, w₁, hq, harr⟩ := h b (.inLoop c :: k) cs
 cases e with
 | normal =>
  obtain ⟨e₂, a₂, w₂, hq₂, harr₂⟩ := hq b k cs
  exact ⟨e₂, a₂, w₂, hq₂, .of_steps (Steps.trans harr (.one step_inLoop)) harr₂⟩
 | exit id => exact ⟨_, a₁, w₁, hq, .pass (x := .inLoop c) rfl (fun _ _ => .inl (by simp)) harr⟩
 | goto l => exact ⟨_, a₁, w₁, hq, .pass (x := .inLoop c) rfl (fun _ _ => .inl (by simp)) harr⟩
 | ret => exact ⟨_, a₁, w₁, hq, .pass (x := .inLoop c) rfl (fun _ _ => .inl (by simp)) harr⟩
 | panic ch => exact ⟨_, a₁, w₁, hq, .pass (x := .inLoop c) rfl (fun _ _ => .inl (by simp)) harr⟩
 | outgrown => exact ⟨_, a₁, w₁, hq, .pass (x := .inLoop c) rfl (fun _ _ => .inl (by simp)) harr⟩
theorem wp_unroll {c : Code} (h : ∀ K : Act → World → Prop, (∀ a w, c.wp P (Exit.then K Q) a w → K a w) → c.wp P (Exit.then K Q) a w) : (Code.loop c).wp P Q a w := by
 intro b k cs
 obtain ⟨e, a', w', hq, harr⟩ := round_at (h (RoundAt P Q c) (fun _ _ h => round_at h)) b k cs
 exact ⟨e, a', w', hq, .of_steps (.one step_loop) harr⟩
end
end Go.Proofs.YtpdahkgandaabaaGreatDoor.Ch
namespace Go.Proofs.YtpdahkgandaabaaGreatDoor.Ch
open Go.RowKit Go.Proofs.YtpdahkgandaabaaGreatDoorW.PrintLast Go.Proofs.YtpdahkgandaabaaGreatDoorW.PrintWords
section
variable {P : Program} {Q : Exit → Act → World → Prop}
theorem wp_count {c : Code} {a : Act} {w : World} (n : Nat) (I : Nat → Act → World → Prop) (hlast : ∀ a w, ¬ I (n + 1) a w)
  (h : ∀ k, k ≤ n → ∀ K : Act → World → Prop, (∀ a w, I (k + 1) a w → K a w) → ∀ a w, I k a w → c.wp P (Exit.then K Q) a w) (h0 : I 0 a w) : (Code.loop c).wp P Q a w := by
 have main : ∀ m k, k + m = n + 1 → ∀ a w, I k a w → RoundAt P Q c a w := by
  intro m
  induction m with
  | zero =>
   intro k hk a w hI
   exact absurd (by rw [← hk]; exact hI) (hlast a w)
  | succ m ih =>
   intro k hk a w hI
   exact round_at (h k (by omega) _ (fun a w hI => ih (k + 1) (by omega) a w hI) a w hI)
 intro b k cs
 obtain ⟨e, a', w', hq, harr⟩ := main (n + 1) 0 (by omega) a w h0 b k cs
 exact ⟨e, a', w', hq, .of_steps (.one step_loop) harr⟩
end
def mark (D : Nat) : Deferred := { target := .collected D, args := #[] }
def Marks (n : Nat) : List Deferred → Nat → World → Prop
 | [], _, _ => True
 | d :: ds, B, W => ∃ D, d = mark D ∧ n ≤ D ∧ D < B ∧ W.heap[D]? = some (.deferred (some [])) ∧ Marks n ds D W
theorem Marks.keep {n : Nat} {W W' : World} : ∀ {ds : List Deferred} {B B' : Nat}, Marks n ds B W → B ≤ B' → (∀ D, D < B → W.heap[D]? = some (.deferred (some [])) → W'.heap[D]? = some (.deferred (some []))) → Marks n ds B' W'
 | [], _, _, _, _, _ => trivial
 | _ :: _, _, _, ⟨D, h1, h2, h3, h4, h5⟩, hB, h => ⟨D, h1, h2, by omega, h D h3 h4, h5.keep (Nat.le_refl _) (fun E hE => h E (by omega))⟩
theorem Marks.below {n B : Nat} {W W' : World} {ds : List Deferred} (h : Marks n ds B W) (hb : Below W.heap.size W W') : Marks n ds B W' :=
 h.keep (Nat.le_refl _) fun D _ hD => by
  have hlt : D < W.heap.size := (Array.getElem?_eq_some_iff.1 hD).1
  exact (hb.block D hlt).trans hD
theorem Marks.setCell {n B : Nat} {W : World} {ds : List Deferred} (h : Marks n ds B W) {b : Nat} {C : Array Value} {t : TypeId} {fr : Nat × Nat} (hb : W.heap[b]? = some (.cells C t fr)) (i : Nat) (v : Value) : Marks n ds B (W.setCell ⟨b, i, none⟩ v) :=
 h.keep (Nat.le_refl _) fun D _ hD => (Below.heap_setCell W ⟨b, i, none⟩ v D (fun e => by subst e; rw [hb] at hD; cases hD)).trans hD
theorem Marks.grown {n B B' : Nat} {W W' : World} {ds : List Deferred} {row : Option Nat} (h : Marks n ds B W) (hB : B ≤ B') (hg : W.grownBy W' row) (hr : ∀ r, row = some r → B' ≤ r) : Marks n ds B W' :=
 h.keep (Nat.le_refl _) fun D hlt hD => (hg.block D (Array.getElem?_eq_some_iff.1 hD).1 (fun e => by have := hr D e.symm; omega)).trans hD
theorem Marks.push {n B : Nat} {W : World} {ds : List Deferred} {D : Nat} (h : Marks n ds B W) (hn : n ≤ D) (hB : B ≤ D) (hD : W.heap[D]? = some (.deferred (some []))) : Marks n (mark D :: ds) W.heap.size W :=
 ⟨D, rfl, hn, (Array.getElem?_eq_some_iff.1 hD).1, hD, h.keep hB (fun _ _ h => h)⟩
theorem leaves_marks {P : Program} {fn : Func} {tmps : Array Value} {R : Ending → World → Prop} {m n : Nat} : ∀ (ds : List Deferred) (B : Nat) (W : World), Marks n ds B W → n ≤ W.heap.size →
  (∀ W', Below n W W' → (∀ (b : Nat) (C : Array Value) (t : TypeId) (fr : Nat × Nat), W.heap[b]? = some (Obj.cells C t fr) → W'.heap[b]? = some (Obj.cells C t fr)) → ∃ v, (results fn tmps).run P W' = .ok v W' ∧ R (.returned v) W') → LeavesInM Fence.wide m P fn tmps R ds .returning W
 | [], _, W, _, _, h => h W (Below.refl _ _) (fun _ _ _ _ h => h)
 | d :: ds, B, W, ⟨D, h1, h2, h3, h4, h5⟩, hn, h => by
  subst h1
  have hb : Below n W (W.putObj D (.deferred none)) := (Below.refl n W).grown (grownBy_putObj' W D _) hn (fun k e => by cases e; exact h2)
  refine ⟨by simp, .inl ⟨D, _, rfl, run_takeDeferred h4, leaves_marks ds D _ (h5.keep (Nat.le_refl _) (fun E hE hh => (World.putObj_heap_other (fun e => by omega)).trans hh)) (by have := hb.size; omega) (fun W' hW hc => h W' (hb.trans hW) (fun b C t fr hh => hc b C t fr ?_))⟩⟩
  exact (World.putObj_heap_other (fun e => by subst e; rw [h4] at hh; cases hh)).trans hh
theorem reach_more {md : Region.Mode} {ops : Array Oper} {i d : Nat} (h : Region.reachB md ops i 1 d = true) : Region.reachB md ops i 2 d = true := by
 unfold Region.reachB at h ⊢
 split at h
 ·
  rename_i o ho
  obtain ⟨e, he, h1⟩ := Array.any_eq_true'.1 h
  refine Array.any_eq_true'.2 ⟨e, he, ?_⟩
  simp only [Region.reachB, Bool.or_false, Bool.and_eq_true, Bool.or_eq_true] at h1 ⊢
  exact ⟨h1.1, .inl h1.2⟩
 cases h
section
variable {P : Program} {ops : Array Oper} {Q : Exit → Act → World → Prop} {md : Region.Mode} {S : World → Prop} {ds : List Nat}
def takeB1 (md : Region.Mode) (ops : Array Oper) (ds : List Nat) (l l' : Array Bool) (i : Nat) : Bool :=
 Region.noSelect ops && Region.free md ops l i && (Region.ready md ops l).contains i && Region.closedB md ops l && (ds.all fun d => l.getD d true || Region.reachB md ops i 1 d || Region.reachB md ops i 2 d) && (l.setIfInBounds i true == l')
theorem take1_ {i : Nat} {N : Option Tmp} {oi : Oper} {v : Value} {fuel : Nat} {l : Array Bool} {a : Act} {w : World} (l' : Array Bool) (hi : ops[i]? = some oi) (hN : oi.dst = N) (hc : takeB1 md ops ds l l' i = true)
  (hQ : ∀ c a w, Q (.panic c) (a.put oi.dst v) w → Q (.panic c) a w) (hy : YieldsIf P ops S oi v a) (hS : S w) {a' : Act} (ha : a.put N v = a')
  (h : wpAnyLast P md ops Q S ds fuel l' a' w) : wpAnyLast P md ops Q S ds (fuel + 1) l a w := by
 subst ha
 subst hN
 simp only [takeB1, Bool.and_eq_true, beq_iff_eq] at hc
 obtain ⟨⟨⟨⟨⟨h1, h2⟩, h3⟩, h4⟩, h5⟩, h6⟩ := hc
 subst h6
 refine wpAnyLast_first hi (Region.noSelect_spec h1) hQ 2 fuel l a w (Region.free_spec hi h2) (Region.closedB_spec h4) (fun d hm hun => ?_) (by simpa using h3) hy hS h
 have h7 := List.all_eq_true.1 h5 d hm
 rw [hun] at h7
 simp only [Bool.false_or, Bool.or_eq_true] at h7
 rcases h7 with h7 | h7
 ·
  exact reach_more h7
 exact h7
end
theorem wp_still {P : Program} {c : Code} {Q : Exit → Act → World → Prop} {a : Act} {w : World} (h : c.wp P (fun e a w => match e with | .panic _ => False | e => Q e a w) a w) : c.wp P Q a w :=
 Code.wp_mono (fun e a w h => by cases e <;> first | exact h | exact h.elim) h
end Go.Proofs.YtpdahkgandaabaaGreatDoor.Ch
namespace Go.Proofs.YtpdahkgandaabaaGreatDoor.Ch
open Go.RowKit Go.Proofs.YtpdahkgandaabaaGreatDoorW.PrintWords Go.Proofs.YtpdahkgandaabaaGreatDoorW.PrintLast Go.Proofs.YtpdahkgandaabaaGreatDoorW.PrintMore Go.Proofs.YtpdahkgandaabaaGreatDoor.PTopNames Go.Proofs.YtpdahkgandaabaaGreatDoor.Al
set_option linter.unusedVariables false
set_option linter.unusedSimpArgs false
theorem cut1_ {P : Nat → World → Prop} (C : Nat → World → Prop) {R : Prop} (h1 : (∀ b w, C b w → P b w) → R) (h2 : ∀ b w, C b w → P b w) : R := h1 h2
def r3k (x0 x1 x2 : Int) (k : Nat) : Int := if k = 0 then x0 else if k = 1 then x1 else x2
set_option maxRecDepth 100000 in
set_option maxHeartbeats 4000000 in
theorem dstep1 (k0 k1 k2 j : Int) (bk bj : Nat) (x r e : Int) (hm : Tells 116 #[x, .int .i64 (r3k k0 k1 k2 j.toNat)] (Ch.two r e))  (w : World) (hG : G w) (hk : w.heap[bk]? = some (.cells #[k0, k1, k2] 26 (0, 0))) (hj : w.heap[bj]? = some (.cells #[j] 3 (0, 0))) (j0 : 0 ≤ j) (j3 : j < 3) :
  Calls Tryz.prog 115 #[x, .pointer (some ⟨bk, 0, none⟩), .pointer (some ⟨bj, 0, none⟩)] w fun e' w' => e' = .returned (Ch.two r e) ∧ Below w.heap.size w w' := by
 have HM := am hm
 have HG := am hG
 clear hm hG
 unfold Ch.two at *
 have yk : w.cell? ⟨bk, j.toNat, none⟩ = some (.int .i64 (r3k k0 k1 k2 j.toNat)) := by
  refine (blk_cell hk _).trans ?_
  obtain rfl | rfl | rfl : j = 0 ∨ j = 1 ∨ j = 2 := by omega
  all_goals rfl
 have yj := bcv hj 0 (.int .i64 j) rfl
 clear hk hj
 go_enter Tryz.func115, Tryz.ntmps115
 go_wp2_with fail
 refine (HM.out w HG.out).mono ?_
 rintro e' w1 ⟨rfl, hb⟩
 go_wp2_with fail
 go_ret2
 exact ⟨rfl, hb⟩
set_option maxRecDepth 100000 in
set_option maxHeartbeats 4000000 in
theorem dstep2 (y : Int) (bs : Nat) (x r e : Int) (hm : Tells 116 #[x, y] (Ch.two r e))  (w : World) (hG : G w) (hs : w.heap[bs]? = some (.cells #[y] 2 (0, 0))) :
  Calls Tryz.prog 117 #[x, .pointer (some ⟨bs, 0, none⟩)] w fun e' w' => e' = .returned (Ch.two r e) ∧ Below w.heap.size w w' := by
 have HM := am hm
 have HG := am hG
 clear hm hG
 unfold Ch.two at *
 have ys := bcv hs 0 (.int .i64 y) rfl
 clear hs
 go_enter Tryz.func117, Tryz.ntmps117
 go_wp2_with fail
 refine (HM.out w HG.out).mono ?_
 rintro e' w1 ⟨rfl, hb⟩
 go_wp2_with fail
 go_ret2
 exact ⟨rfl, hb⟩
set_option maxRecDepth 100000 in
set_option maxHeartbeats 4000000 in
theorem dstep3 (y : Int) (bs : Nat) (x r e : Int) (hm : Tells 95 #[x, y] (Ch.two r e))  (w : World) (hG : G w) (hs : w.heap[bs]? = some (.cells #[y] 2 (0, 0))) :
  Calls Tryz.prog 119 #[x, .pointer (some ⟨bs, 0, none⟩)] w fun e' w' => e' = .returned (Ch.two r e) ∧ Below w.heap.size w w' := by
 have HM := am hm
 have HG := am hG
 clear hm hG
 unfold Ch.two at *
 have ys := bcv hs 0 (.int .i64 y) rfl
 clear hs
 go_enter Tryz.func119, Tryz.ntmps119
 go_wp2_with fail
 refine (HM.out w HG.out).mono ?_
 rintro e' w1 ⟨rfl, hb⟩
 go_wp2_with fail
 go_ret2
 exact ⟨rfl, hb⟩
set_option maxRecDepth 100000 in
set_option maxHeartbeats 4000000 in
theorem dstep4 (y : Int) (bs : Nat) (x r e : Int) (hm : Tells 105 #[x, y] (Ch.two r e))  (w : World) (hG : G w) (hs : w.heap[bs]? = some (.cells #[y] 2 (0, 0))) :
  Calls Tryz.prog 120 #[x, .pointer (some ⟨bs, 0, none⟩)] w fun e' w' => e' = .returned (Ch.two r e) ∧ Below w.heap.size w w' := by
 have HM := am hm
 have HG := am hG
 clear hm hG
 unfold Ch.two at *
 have ys := bcv hs 0 (.int .i64 y) rfl
 clear hs
 go_enter Tryz.func120, Tryz.ntmps120
 go_wp2_with fail
 refine (HM.out w HG.out).mono ?_
 rintro e' w1 ⟨rfl, hb⟩
 go_wp2_with fail
 go_ret2
 exact ⟨rfl, hb⟩
def stepsV (x2 e1 e2 : Int) : Int := if e1 = 0 then (if e2 = 0 then x2 else 0) else 0
def stepsE (e1 e2 : Int) : Int := if e1 = 0 then e2 else e1
set_option maxRecDepth 100000 in
set_option maxHeartbeats 4000000 in
theorem steps_any (w : World) (x x1 e1 x2 e2 : Int) (F1 F2 : Nat) (c1 c2 : Array Value) (hc1 : ∀ args w, (callFunc F1 args).run Tryz.prog w = .ok (.enter F1 args) w) (hc2 : ∀ args w, (callFunc F2 args).run Tryz.prog w = .ok (.enter F2 args) w) (b : Nat)
  (hb : w.heap[b]? = some (.cells #[.func (.func F1) #[] c1, .func (.func F2) #[] c2] 106 (0, 0)))
  (h1 : Calls Tryz.prog F1 (#[.int .i64 x] ++ c1) w fun e w' => e = .returned (Ch.two x1 e1) ∧ Below w.heap.size w w')
  (h2 : ∀ w', Below w.heap.size w w' → Calls Tryz.prog F2 (#[.int .i64 x1] ++ c2) w' fun e w'' => e = .returned (Ch.two x2 e2) ∧ Below w'.heap.size w' w'') :
  Calls Tryz.prog 114 #[x, .slice (some ⟨b, 0, none⟩) 2 2] w fun e w' => e = .returned (Ch.two (stepsV x2 e1 e2) (stepsE e1 e2)) ∧ Below w.heap.size w w' := by
 have H1 := am h1
 have H2 := am h2
 have HB0 := am hb
 have y0 := bcv hb 0 (.func (.func F1) #[] c1) rfl
 clear h1 h2 hb
 unfold Ch.two at *
 go_enter Tryz.func114, Tryz.ntmps114
 go_wp2_with fail
 refine wp_unroll (fun K hK => ?_)
 have HK := am hK
 clear hK
 go_wp2_with fail
 refine H1.out.mono ?_
 rintro e w1 ⟨rfl, hb⟩
 have HB := am hb
 replace HB0 := b_b HB0 hb
 clear hb y0
 by_cases h1 : e1 = 0
 ·
  subst h1
  have y1 := b_v HB0 1 (.func (.func F2) #[] c2) rfl
  go_wp2_with fail
  refine HK.out _ _ ?_
  go_wp2_with fail
  refine (H2.out w1 HB.out).mono ?_
  rintro e w2 ⟨rfl, hb⟩
  replace HB := b_s HB hb
  clear hb y1
  by_cases h2 : e2 = 0
  ·
   subst h2
   go_wp2_with fail
   refine HK.out _ _ ?_
   go_wp2_with fail
   go_ret2
   exact ⟨by simp [stepsV, stepsE], HB.out⟩
  have q1 : (e2 == 0) = false := by simp [h2]
  have q2 : decide (e2 = 0) = false := decide_eq_false h2
  have HN := am h2
  clear h2
  go_wp2_with fail
  go_ret2
  exact ⟨by simp [stepsV, stepsE, HN.out], HB.out⟩
 have q1 : (e1 == 0) = false := by simp [h1]
 have q2 : decide (e1 = 0) = false := decide_eq_false h1
 have HN := am h1
 clear h1
 go_wp2_with fail
 go_ret2
 exact ⟨by simp [stepsV, stepsE, HN.out], HB.out⟩
def sq (x : Int) : Int × Int := (bits_Mul64.f x x).getD (0, 0)
theorem sq_f (x : Int) : bits_Mul64.f x x = some ((sq x).1, (sq x).2) := by
 obtain ⟨a, b, h, _⟩ := mul64_f x x
 unfold sq
 rw [h]
 rfl
def rtX (r : Int) (k : Nat) : Int := Go.bits .or .u64 r (IntKind.u64.wrap (2 ^ (63 - k)))
def rtN (h l : Int) : Nat → Int
 | 0 => 0
 | k + 1 => if (decide (IntKind.u64.wrap h < (sq (rtX (rtN h l k) k)).1) || ((sq (rtX (rtN h l k) k)).1 == IntKind.u64.wrap h && decide (l < (sq (rtX (rtN h l k) k)).2))) = true then rtN h l k else rtX (rtN h l k) k
set_option maxRecDepth 100000 in
set_option maxHeartbeats 4000000 in
theorem rootof_tells (h l : Int) : ∃ r e, Tells 155 #[wide h l] (.tuple #[.int .u64 r, .int .i64 e]) := by
 by_cases h0 : h < 0
 ·
  have d0 : decide (h < 0) = true := decide_eq_true h0
  refine ⟨0, 1, fun w hG => ?_⟩
  have HG := am hG
  clear hG
  unfold wide
  go_enter Tryz.func155, Tryz.ntmps155
  go_wp2
  go_step3
  go_upto_region 1 with fail
  have HX := am (blk_new w (.cells #[h, .int .u64 l] 124))
  have HB := am (below_alloc (Below.refl w.heap.size w) (.cells #[h, .int .u64 l] 124))
  generalize w.alloc (.cells #[h, .int .u64 l] 124) = w1 at HX HB ⊢
  obtain ⟨b1, h1⟩ := e_x (w.heap.size)
  have g1 : w.heap.size ≤ b1 := by omega
  rw [← h1] at HX ⊢
  clear h1
  have y0 := b_v HX 0 (.int .i64 h) rfl
  go_wp2_with fail
  rw [Exit.noGoto_ret]
  go_ret2
  exact ⟨rfl, HB.out⟩
 have d0 : decide (h < 0) = false := decide_eq_false h0
 refine ⟨rtN h l 64, 0, fun w hG => ?_⟩
 clear h0
 have HG := am hG
 clear hG
 unfold wide
 go_enter Tryz.func155, Tryz.ntmps155
 go_wp2
 go_step3
 go_upto_region 1 with fail
 have HX := am (blk_new w (.cells #[h, .int .u64 l] 124))
 have HB := am (below_alloc (Below.refl w.heap.size w) (.cells #[h, .int .u64 l] 124))
 generalize w.alloc (.cells #[h, .int .u64 l] 124) = w1 at HX HB ⊢
 obtain ⟨b1, h1⟩ := e_x (w.heap.size)
 have g1 : w.heap.size ≤ b1 := by omega
 rw [← h1] at HX ⊢
 clear h1
 have y0 := b_v HX 0 (.int .i64 h) rfl
 go_wp2_with fail
 go_step3
 go_wp2_with fail
 go_loopw [4, 5] (fun v4 v5 wr => ∃ k : Nat, k ≤ 64 ∧ v4 = .int .u64 (rtN h l k) ∧ v5 = .int .i64 (63 - (k : Int)) ∧ Aside0 (wr.heap[b1]? = some (.cells #[h, .int .u64 l] 124 (0, 0))) ∧ Aside0 (Below w.heap.size w wr)) (fun _ v5 _ => (64 + intOf v5).toNat)
 case atStart => exact ⟨0, by omega, rfl, rfl, HX, HB⟩
 case round =>
  clear HX HB
  obtain ⟨k, hk, rfl, rfl, HX, HB⟩ := hrel
  by_cases hlt : k < 64
  ·
   have q0 : decide (0 ≤ 63 - (k : Int)) = true := decide_eq_true (by omega)
   have hrn : rtN h l (k + 1) = if (decide (IntKind.u64.wrap h < (sq (rtX (rtN h l k) k)).1) || ((sq (rtX (rtN h l k) k)).1 == IntKind.u64.wrap h && decide (l < (sq (rtX (rtN h l k) k)).2))) = true then rtN h l k else rtX (rtN h l k) k := rfl
   generalize rtN h l k = rk at hrn ⊢
   obtain ⟨x, hx⟩ : ∃ x, x = rtX rk k := ⟨_, rfl⟩
   rw [← hx] at hrn
   unfold rtX at hx
   go_upto_region 8 with fail
   rw [← hx]
   clear hx
   have hs := sq_f x
   generalize sq x = q at hs hrn
   obtain ⟨qh, ql⟩ := q
   have HRN0 := am hrn
   have HS := am hs
   clear hrn hs
   go_wp2_with fail
   refine (bits_Mul64.calls x x qh ql wr HS.out).mono ?_
   rintro e w2 ⟨rfl, hd⟩
   replace HX := am (blk_below HX.out hd.below)
   replace HB := am (below_step HB.out hd.below)
   clear hd
   have y0 := b_v HX 0 (.int .i64 h) rfl
   have y1 := b_v HX 1 (.int .u64 l) rfl
   by_cases c1 : IntKind.u64.wrap h < qh
   ·
    have p1 : decide (IntKind.u64.wrap h < qh) = true := decide_eq_true c1
    have HRN := am (show rtN h l (k + 1) = rk by rw [HRN0.out]; simp [p1])
    go_wp2_with fail
    go_roundw
    case rel => exact ⟨k + 1, hlt, by rw [HRN.out], by congr 1; omega, ⟨HX.out⟩, ⟨HB.out⟩⟩
    case measure =>
     show (64 + (63 - (k : Int) - 1)).toNat < (64 + (63 - (k : Int))).toNat
     omega
   have p1 : decide (IntKind.u64.wrap h < qh) = false := decide_eq_false c1
   by_cases c2 : qh = IntKind.u64.wrap h
   ·
    have p2 : (qh == IntKind.u64.wrap h) = true := by simp [c2]
    have p2' : decide (qh = IntKind.u64.wrap h) = true := decide_eq_true c2
    by_cases c3 : l < ql
    ·
     have p3 : decide (l < ql) = true := decide_eq_true c3
     have HRN := am (show rtN h l (k + 1) = rk by rw [HRN0.out]; simp [p1, p2, p3])
     go_wp2_with fail
     go_roundw
     case rel => exact ⟨k + 1, hlt, by rw [HRN.out], by congr 1; omega, ⟨HX.out⟩, ⟨HB.out⟩⟩
     case measure =>
      show (64 + (63 - (k : Int) - 1)).toNat < (64 + (63 - (k : Int))).toNat
      omega
    have p3 : decide (l < ql) = false := decide_eq_false c3
    have HRN := am (show rtN h l (k + 1) = x by rw [HRN0.out]; simp [p1, p2, p3])
    go_wp2_with fail
    go_roundw
    case rel => exact ⟨k + 1, hlt, by rw [HRN.out], by congr 1; omega, ⟨HX.out⟩, ⟨HB.out⟩⟩
    case measure =>
     show (64 + (63 - (k : Int) - 1)).toNat < (64 + (63 - (k : Int))).toNat
     omega
   have p2 : (qh == IntKind.u64.wrap h) = false := by simp [c2]
   have p2' : decide (qh = IntKind.u64.wrap h) = false := decide_eq_false c2
   have HRN := am (show rtN h l (k + 1) = x by rw [HRN0.out]; simp [p1, p2])
   go_wp2_with fail
   go_roundw
   case rel => exact ⟨k + 1, hlt, by rw [HRN.out], by congr 1; omega, ⟨HX.out⟩, ⟨HB.out⟩⟩
   case measure =>
    show (64 + (63 - (k : Int) - 1)).toNat < (64 + (63 - (k : Int))).toNat
    omega
  have q0 : decide (0 ≤ 63 - (k : Int)) = false := decide_eq_false (by omega)
  obtain rfl : k = 64 := by omega
  obtain ⟨rk, hrk⟩ : ∃ rk, rk = rtN h l 64 := ⟨_, rfl⟩
  rw [← hrk]
  go_wp2_with fail
  rw [Exit.noGoto_ret]
  go_ret2
  exact ⟨by rw [← hrk]; rfl, HB.out⟩
set_option maxRecDepth 100000 in
set_option maxHeartbeats 4000000 in
theorem rmean_tells (x y : Int) : ∃ r, Tells 139 #[x, y] (.int .i64 r) := by
 obtain ⟨h, l, hu, hm⟩ := mul_tells x y
 obtain ⟨r, e0, hr⟩ := rootof_tells h l
 have HM := am hm
 have HR := am hr
 clear hm hr hu
 by_cases c1 : x < 0
 ·
  have p1 : decide (x < 0) = true := decide_eq_true c1
  refine ⟨0, fun w hG => ?_⟩
  have HG := am hG
  clear hG
  go_enter Tryz.func139, Tryz.ntmps139
  go_wp2_with fail
  go_ret
  exact ⟨rfl, Below.refl _ _⟩
 have p1 : decide (x < 0) = false := decide_eq_false c1
 by_cases c2 : y < 0
 ·
  have p2 : decide (y < 0) = true := decide_eq_true c2
  refine ⟨0, fun w hG => ?_⟩
  have HG := am hG
  clear hG
  go_enter Tryz.func139, Tryz.ntmps139
  go_wp2_with fail
  go_ret
  exact ⟨rfl, Below.refl _ _⟩
 have p2 : decide (y < 0) = false := decide_eq_false c2
 refine ⟨wrap64 r, fun w hG => ?_⟩
 have HG := am hG
 clear hG
 go_enter Tryz.func139, Tryz.ntmps139
 go_wp2_with fail
 refine (HM.out w HG.out).mono ?_
 rintro e w1 ⟨rfl, hb⟩
 have HB := am hb
 clear hb
 unfold wide at HR ⊢
 go_wp2_with fail
 refine (HR.out w1 (HG.out.below HB.out)).mono ?_
 rintro e w2 ⟨rfl, hb⟩
 replace HB := b_s HB hb
 clear hb
 go_wp2_with fail
 go_ret
 exact ⟨rfl, HB.out⟩
end Go.Proofs.YtpdahkgandaabaaGreatDoor.Ch
namespace Go.Proofs.YtpdahkgandaabaaGreatDoor.Ch
open Go.RowKit Go.Proofs.YtpdahkgandaabaaGreatDoorW.PrintWords Go.Proofs.YtpdahkgandaabaaGreatDoorW.PrintLast Go.Proofs.YtpdahkgandaabaaGreatDoorW.PrintMore Go.Proofs.YtpdahkgandaabaaGreatDoor.PTopNames
set_option linter.unusedVariables false
set_option linter.unusedSimpArgs false
def R : Array Value := #[.int .i64 1, .func (.func 39) #[] #[], .int .i64 2, .func (.func 43) #[] #[], .int .i64 3, .func (.func 45) #[] #[], .int .i64 4, .func (.func 46) #[] #[], .int .i64 5, .func (.func 47) #[] #[], .int .i64 6, .func (.func 50) #[] #[], .int .i64 7, .func (.func 52) #[] #[], .int .i64 8, .func (.func 54) #[] #[], .int .i64 9, .func (.func 55) #[] #[], .int .i64 10, .func (.func 57) #[] #[], .int .i64 11, .func (.func 58) #[] #[], .int .i64 12, .func (.func 59) #[] #[], .int .i64 13, .func (.func 60) #[] #[], .int .i64 14, .func (.func 61) #[] #[]]
def Z : Array Value := #[.int .i64 0, .nilFunc, .int .i64 0, .nilFunc, .int .i64 0, .nilFunc, .int .i64 0, .nilFunc, .int .i64 0, .nilFunc, .int .i64 0, .nilFunc, .int .i64 0, .nilFunc, .int .i64 0, .nilFunc, .int .i64 0, .nilFunc, .int .i64 0, .nilFunc, .int .i64 0, .nilFunc, .int .i64 0, .nilFunc, .int .i64 0, .nilFunc, .int .i64 0, .nilFunc]
set_option maxRecDepth 100000 in
set_option maxHeartbeats 4000000 in
theorem rules_any (w : World) : Calls Tryz.prog 19 #[] w fun e w' => e = .returned (.agg R) ∧ Below w.heap.size w w' := by
 have HB := am (below_alloc (Below.refl w.heap.size w) (.cells R 70))
 go_enter Tryz.func19, Tryz.ntmps19
 go_upto_region 1 with fail
 iterate 47 go_step
 refine wp_store_row 70 (.tmp 0) (.tmp 15) rfl w.heap.size R rfl rfl 70 Z (heap_alloc_last w _) (by kernel_rfl) (by kernel_rfl) (by kernel_rfl) ?_
 rw [show (w.alloc (.cells #[(), .nilFunc, (), .nilFunc, (), .nilFunc, (), .nilFunc, (), .nilFunc, (), .nilFunc, (), .nilFunc, (), .nilFunc, (), .nilFunc, (), .nilFunc, (), .nilFunc, (), .nilFunc, (), .nilFunc, (), .nilFunc] 70)).setRow w.heap.size R = w.alloc (.cells R 70) from World.setRow_alloc_new w _ _ _]
 go_wp2_with fail
 refine bodyPost_ret (v := .agg R) ?_ rfl ⟨rfl, HB.out⟩
 exact results_cell_row rfl _ _ w.heap.size 70 R (0, 0) _ rfl (heap_alloc_last w _) Tryz.underlying70 rfl (by kernel_rfl)
def ruleB (c : Cf) : Nat → Bool
 | 0 => within c.q0 0 1125899906842624 && (within c.q1 0 1125899906842624 && within c.q2 0 1125899906842624)
 | 1 => within c.l0 c.q0 1125899906842624 && (within c.l1 c.q1 1125899906842624 && within c.l2 c.q2 1125899906842624)
 | 2 => within c.r 274877906944 1125899906842624
 | 3 => within c.rg c.r 1125899906842624
 | 4 => (m1 c.f0 c.c0 && (m1 c.f1 c.c1 && m1 c.f2 c.c2)) && (decide (c.c0 ≤ 72057594037927936) && (decide (c.c1 ≤ 72057594037927936) && decide (c.c2 ≤ 72057594037927936)))
 | 5 => within c.s0 c.f0 c.c0 && (within c.s1 c.f1 c.c1 && within c.s2 c.f2 c.c2)
 | 6 => (within c.b0 0 72057594037927936 && (within c.b1 0 72057594037927936 && within c.b2 0 72057594037927936)) && decide (18014398509481984 ≤ c.b0)
 | 7 => within c.g 1 1000
 | 8 => (within c.t0 (-4398046511104) 4398046511104 && (within c.t1 (-4398046511104) 4398046511104 && within c.t2 (-4398046511104) 4398046511104)) && within c.t0 0 1099511627776
 | 9 => within c.sc 1 1099511627776
 | 10 => (within c.clip 1 131072 && decide (wrap64 (-c.clip) < c.rest)) && decide (c.rest < c.clip)
 | 11 => within c.hold 0 1000
 | 12 => within c.coast 1 c.out && decide (c.out ≤ 100000)
 | 13 => within c.band 0 400000
 | _ => true
def firstOf (c : Cf) : Nat → Nat → Int
 | 0, _ => 0
 | n + 1, k => if ruleB c k then firstOf c n (k + 1) else (k : Int) + 1
def checkR (c : Cf) : Int := firstOf c 14 0
@[local go_sem] theorem run_store_func {P : Program} {w : World} {a : Addr} {m : Mode} (f : Fn) (x y : Array Value) : (store a (.func f x y) m).run P w = stored P w a (.func f x y) m := run_store P w a _ m rfl
theorem first_at (c : Cf) (m : Nat) (hm : ruleB c m = false) : ∀ n k, k ≤ m → m < k + n → (∀ j, k ≤ j → j < m → ruleB c j = true) → firstOf c n k = (m : Int) + 1
 | 0, k, h1, h2, _ => by omega
 | n + 1, k, h1, h2, h => by
  unfold firstOf
  rcases Nat.eq_or_lt_of_le h1 with e | hlt
  ·
   subst e
   rw [hm]
   rfl
  rw [h k (Nat.le_refl _) hlt, if_pos rfl]
  exact first_at c m hm n (k + 1) hlt (by omega) (fun j hj => h j (by omega))
theorem first_none (c : Cf) : ∀ n k, (∀ j, k ≤ j → j < k + n → ruleB c j = true) → firstOf c n k = 0
 | 0, _, _ => rfl
 | n + 1, k, h => by
  unfold firstOf
  rw [h k (Nat.le_refl _) (by omega), if_pos rfl]
  exact first_none c n (k + 1) (fun j h1 h2 => h j (by omega) (by omega))
theorem upto_next {c : Cf} {k : Nat} (h : ∀ j, j < k → ruleB c j = true) (hk : ruleB c k = true) : ∀ j, j < k + 1 → ruleB c j = true := fun j hj => by
 rcases Nat.eq_or_lt_of_le (Nat.le_of_lt_succ hj) with e | hlt
 ·
  rw [e]
  exact hk
 exact h j hlt
theorem wp_load_whole {P : Program} {op : Oper} {a : Act} {w : World} {K : Act → World → Prop} {Q : Exit → Act → World → Prop} (ty : TypeId) (x : Operand) (ho : op.op = .load ty x)
  (b : Nat) (t : TypeId) (cs : Array Value) (fr : Nat × Nat) (hx : a.eval x = .pointer (some ⟨b, 0, none⟩)) (hg : w.heap[b]? = some (.cells cs t fr)) (d : TypeDesc)
  (hu : P.underlying ty = some d) (hd : (match d with | .struct _ | .array _ _ => true | _ => false) = true) (hi : (P.info? ty).map (·.size) = some cs.size)
  (h : K (a.put op.dst (.agg cs)) w) : op.wp P a w K Q := by
 unfold Oper.wp execOp
 simp only [ho, hx, Instr.loadAt, Instr.sureAddr, Sem.run_bind, Sem.run_pure, Result.andThen_ok, run_loadVar_row w b t ty cs fr d hg hu hd hi]
 exact h
set_option maxRecDepth 100000 in
set_option maxHeartbeats 40000000 in
theorem check_any (w : World) (c : Cf) : Calls Tryz.prog 7 #[.agg c.v] w fun e w' => e = .returned (.int .i64 (checkR c)) ∧ Below w.heap.size w w' := by
 go_enter Tryz.func7, Tryz.ntmps7
 go_upto_region 1 with fail
 have HX := am (blk_new w (.cells c.v 28))
 have HB := am (below_alloc (Below.refl w.heap.size w) (.cells c.v 28))
 generalize w.alloc (.cells c.v 28) = w1 at HX HB ⊢
 obtain ⟨b, hb⟩ := e_x (w.heap.size)
 rw [← hb] at HX ⊢
 clear hb
 go_wp2_with fail
 refine (rules_any w1).mono ?_
 rintro e w2 ⟨rfl, hb⟩
 replace HX := b_b HX hb
 replace HB := b_s HB hb
 clear hb
 have HR := am (Below.refl w2.heap.size w2)
 go_wp2_with fail
 go_loopw [6] (fun v6 wr => ∃ k : Nat, k ≤ 14 ∧ v6 = .int .i64 k ∧ Aside0 (Below w2.heap.size w2 wr) ∧ Aside0 (∀ j, j < k → ruleB c j = true)) (fun v6 _ => 15 - (intOf v6).toNat)
 case atStart => exact ⟨0, by omega, rfl, HR, ⟨fun j hj => by omega⟩⟩
 case round =>
  clear HR
  obtain ⟨k, hk, rfl, HR, HK⟩ := hrel
  have hk4 : k = 0 ∨ k = 1 ∨ k = 2 ∨ k = 3 ∨ k = 4 ∨ k = 5 ∨ k = 6 ∨ k = 7 ∨ k = 8 ∨ k = 9 ∨ k = 10 ∨ k = 11 ∨ k = 12 ∨ k = 13 ∨ k = 14 := by omega
  clear hk
  rcases hk4 with rfl | rfl | rfl | rfl | rfl | rfl | rfl | rfl | rfl | rfl | rfl | rfl | rfl | rfl | rfl
  ·
   have ik : ∀ w, (Instr.index 70 (.agg R) (.int .i64 0)).run Tryz.prog w = .ok (.agg #[.int .i64 1, .func (.func 39) #[] #[]]) w := fun _ => by kernel_rfl
   have hcast : ((0 : Nat) : Int) = 0 := rfl
   go_upto_region 4 with fail
   have HA := am (blk_new wr (.cells #[.int .i64 1, .func (.func 39) #[] #[]] 69))
   have HQ := am (blk_alloc (blk_below HX.out HR.out) (.cells #[.int .i64 1, .func (.func 39) #[] #[]] 69))
   replace HR := am (below_alloc HR.out (.cells #[.int .i64 1, .func (.func 39) #[] #[]] 69))
   generalize wr.alloc (.cells #[.int .i64 1, .func (.func 39) #[] #[]] 69) = wq at HA HQ HR ⊢
   generalize wr.heap.size = a at HA ⊢
   have y1 := b_v HA 1 (.func (.func 39) #[] #[]) rfl
   iterate 8 go_step
   refine wp_load_whole 28 (.tmp 1) rfl b 28 c.v (0, 0) rfl HQ.out _ Tryz.underlying28 rfl (by kernel_rfl) ?_
   clear y1
   go_wp2_with fail
   refine (show Calls Tryz.prog 39 #[.agg c.v] wq fun e w' => e = .returned (.bool (ruleB c 0)) ∧ Below wq.heap.size wq w' from rule39 wq c).mono ?_
   rintro e w3 ⟨rfl, hb⟩
   replace HR := b_s HR hb
   replace HA := b_b HA hb
   clear hb HQ
   obtain ⟨q, HV⟩ : ∃ q, Aside0 (ruleB c 0 = q) := ⟨_, ⟨rfl⟩⟩
   rw [HV.out]
   cases q with
   | true =>
    go_wp2_with fail
    go_roundw
    case rel => exact ⟨1, by decide, rfl, HR, ⟨upto_next HK.out HV.out⟩⟩
    case measure => decide
   | false =>
    have y0 := b_v HA 0 (.int .i64 1) rfl
    go_wp2_with fail
    go_ret
    exact ⟨congrArg (fun z => Ending.returned (.int .i64 z)) (first_at c 0 HV.out 14 0 (by decide) (by decide) (fun j _ hj => HK.out j hj)).symm, below_step HB.out HR.out⟩
  ·
   have ik : ∀ w, (Instr.index 70 (.agg R) (.int .i64 1)).run Tryz.prog w = .ok (.agg #[.int .i64 2, .func (.func 43) #[] #[]]) w := fun _ => by kernel_rfl
   have hcast : ((1 : Nat) : Int) = 1 := rfl
   go_upto_region 4 with fail
   have HA := am (blk_new wr (.cells #[.int .i64 2, .func (.func 43) #[] #[]] 69))
   have HQ := am (blk_alloc (blk_below HX.out HR.out) (.cells #[.int .i64 2, .func (.func 43) #[] #[]] 69))
   replace HR := am (below_alloc HR.out (.cells #[.int .i64 2, .func (.func 43) #[] #[]] 69))
   generalize wr.alloc (.cells #[.int .i64 2, .func (.func 43) #[] #[]] 69) = wq at HA HQ HR ⊢
   generalize wr.heap.size = a at HA ⊢
   have y1 := b_v HA 1 (.func (.func 43) #[] #[]) rfl
   iterate 8 go_step
   refine wp_load_whole 28 (.tmp 1) rfl b 28 c.v (0, 0) rfl HQ.out _ Tryz.underlying28 rfl (by kernel_rfl) ?_
   clear y1
   go_wp2_with fail
   refine (show Calls Tryz.prog 43 #[.agg c.v] wq fun e w' => e = .returned (.bool (ruleB c 1)) ∧ Below wq.heap.size wq w' from rule43 wq c).mono ?_
   rintro e w3 ⟨rfl, hb⟩
   replace HR := b_s HR hb
   replace HA := b_b HA hb
   clear hb HQ
   obtain ⟨q, HV⟩ : ∃ q, Aside0 (ruleB c 1 = q) := ⟨_, ⟨rfl⟩⟩
   rw [HV.out]
   cases q with
   | true =>
    go_wp2_with fail
    go_roundw
    case rel => exact ⟨2, by decide, rfl, HR, ⟨upto_next HK.out HV.out⟩⟩
    case measure => decide
   | false =>
    have y0 := b_v HA 0 (.int .i64 2) rfl
    go_wp2_with fail
    go_ret
    exact ⟨congrArg (fun z => Ending.returned (.int .i64 z)) (first_at c 1 HV.out 14 0 (by decide) (by decide) (fun j _ hj => HK.out j hj)).symm, below_step HB.out HR.out⟩
  ·
   have ik : ∀ w, (Instr.index 70 (.agg R) (.int .i64 2)).run Tryz.prog w = .ok (.agg #[.int .i64 3, .func (.func 45) #[] #[]]) w := fun _ => by kernel_rfl
   have hcast : ((2 : Nat) : Int) = 2 := rfl
   go_upto_region 4 with fail
   have HA := am (blk_new wr (.cells #[.int .i64 3, .func (.func 45) #[] #[]] 69))
   have HQ := am (blk_alloc (blk_below HX.out HR.out) (.cells #[.int .i64 3, .func (.func 45) #[] #[]] 69))
   replace HR := am (below_alloc HR.out (.cells #[.int .i64 3, .func (.func 45) #[] #[]] 69))
   generalize wr.alloc (.cells #[.int .i64 3, .func (.func 45) #[] #[]] 69) = wq at HA HQ HR ⊢
   generalize wr.heap.size = a at HA ⊢
   have y1 := b_v HA 1 (.func (.func 45) #[] #[]) rfl
   iterate 8 go_step
   refine wp_load_whole 28 (.tmp 1) rfl b 28 c.v (0, 0) rfl HQ.out _ Tryz.underlying28 rfl (by kernel_rfl) ?_
   clear y1
   go_wp2_with fail
   refine (show Calls Tryz.prog 45 #[.agg c.v] wq fun e w' => e = .returned (.bool (ruleB c 2)) ∧ Below wq.heap.size wq w' from rule45 wq c).mono ?_
   rintro e w3 ⟨rfl, hb⟩
   replace HR := b_s HR hb
   replace HA := b_b HA hb
   clear hb HQ
   obtain ⟨q, HV⟩ : ∃ q, Aside0 (ruleB c 2 = q) := ⟨_, ⟨rfl⟩⟩
   rw [HV.out]
   cases q with
   | true =>
    go_wp2_with fail
    go_roundw
    case rel => exact ⟨3, by decide, rfl, HR, ⟨upto_next HK.out HV.out⟩⟩
    case measure => decide
   | false =>
    have y0 := b_v HA 0 (.int .i64 3) rfl
    go_wp2_with fail
    go_ret
    exact ⟨congrArg (fun z => Ending.returned (.int .i64 z)) (first_at c 2 HV.out 14 0 (by decide) (by decide) (fun j _ hj => HK.out j hj)).symm, below_step HB.out HR.out⟩
  ·
   have ik : ∀ w, (Instr.index 70 (.agg R) (.int .i64 3)).run Tryz.prog w = .ok (.agg #[.int .i64 4, .func (.func 46) #[] #[]]) w := fun _ => by kernel_rfl
   have hcast : ((3 : Nat) : Int) = 3 := rfl
   go_upto_region 4 with fail
   have HA := am (blk_new wr (.cells #[.int .i64 4, .func (.func 46) #[] #[]] 69))
   have HQ := am (blk_alloc (blk_below HX.out HR.out) (.cells #[.int .i64 4, .func (.func 46) #[] #[]] 69))
   replace HR := am (below_alloc HR.out (.cells #[.int .i64 4, .func (.func 46) #[] #[]] 69))
   generalize wr.alloc (.cells #[.int .i64 4, .func (.func 46) #[] #[]] 69) = wq at HA HQ HR ⊢
   generalize wr.heap.size = a at HA ⊢
   have y1 := b_v HA 1 (.func (.func 46) #[] #[]) rfl
   iterate 8 go_step
   refine wp_load_whole 28 (.tmp 1) rfl b 28 c.v (0, 0) rfl HQ.out _ Tryz.underlying28 rfl (by kernel_rfl) ?_
   clear y1
   go_wp2_with fail
   refine (show Calls Tryz.prog 46 #[.agg c.v] wq fun e w' => e = .returned (.bool (ruleB c 3)) ∧ Below wq.heap.size wq w' from rule46 wq c).mono ?_
   rintro e w3 ⟨rfl, hb⟩
   replace HR := b_s HR hb
   replace HA := b_b HA hb
   clear hb HQ
   obtain ⟨q, HV⟩ : ∃ q, Aside0 (ruleB c 3 = q) := ⟨_, ⟨rfl⟩⟩
   rw [HV.out]
   cases q with
   | true =>
    go_wp2_with fail
    go_roundw
    case rel => exact ⟨4, by decide, rfl, HR, ⟨upto_next HK.out HV.out⟩⟩
    case measure => decide
   | false =>
    have y0 := b_v HA 0 (.int .i64 4) rfl
    go_wp2_with fail
    go_ret
    exact ⟨congrArg (fun z => Ending.returned (.int .i64 z)) (first_at c 3 HV.out 14 0 (by decide) (by decide) (fun j _ hj => HK.out j hj)).symm, below_step HB.out HR.out⟩
  ·
   have ik : ∀ w, (Instr.index 70 (.agg R) (.int .i64 4)).run Tryz.prog w = .ok (.agg #[.int .i64 5, .func (.func 47) #[] #[]]) w := fun _ => by kernel_rfl
   have hcast : ((4 : Nat) : Int) = 4 := rfl
   go_upto_region 4 with fail
   have HA := am (blk_new wr (.cells #[.int .i64 5, .func (.func 47) #[] #[]] 69))
   have HQ := am (blk_alloc (blk_below HX.out HR.out) (.cells #[.int .i64 5, .func (.func 47) #[] #[]] 69))
   replace HR := am (below_alloc HR.out (.cells #[.int .i64 5, .func (.func 47) #[] #[]] 69))
   generalize wr.alloc (.cells #[.int .i64 5, .func (.func 47) #[] #[]] 69) = wq at HA HQ HR ⊢
   generalize wr.heap.size = a at HA ⊢
   have y1 := b_v HA 1 (.func (.func 47) #[] #[]) rfl
   iterate 8 go_step
   refine wp_load_whole 28 (.tmp 1) rfl b 28 c.v (0, 0) rfl HQ.out _ Tryz.underlying28 rfl (by kernel_rfl) ?_
   clear y1
   go_wp2_with fail
   refine (show Calls Tryz.prog 47 #[.agg c.v] wq fun e w' => e = .returned (.bool (ruleB c 4)) ∧ Below wq.heap.size wq w' from rule47 wq c).mono ?_
   rintro e w3 ⟨rfl, hb⟩
   replace HR := b_s HR hb
   replace HA := b_b HA hb
   clear hb HQ
   obtain ⟨q, HV⟩ : ∃ q, Aside0 (ruleB c 4 = q) := ⟨_, ⟨rfl⟩⟩
   rw [HV.out]
   cases q with
   | true =>
    go_wp2_with fail
    go_roundw
    case rel => exact ⟨5, by decide, rfl, HR, ⟨upto_next HK.out HV.out⟩⟩
    case measure => decide
   | false =>
    have y0 := b_v HA 0 (.int .i64 5) rfl
    go_wp2_with fail
    go_ret
    exact ⟨congrArg (fun z => Ending.returned (.int .i64 z)) (first_at c 4 HV.out 14 0 (by decide) (by decide) (fun j _ hj => HK.out j hj)).symm, below_step HB.out HR.out⟩
  ·
   have ik : ∀ w, (Instr.index 70 (.agg R) (.int .i64 5)).run Tryz.prog w = .ok (.agg #[.int .i64 6, .func (.func 50) #[] #[]]) w := fun _ => by kernel_rfl
   have hcast : ((5 : Nat) : Int) = 5 := rfl
   go_upto_region 4 with fail
   have HA := am (blk_new wr (.cells #[.int .i64 6, .func (.func 50) #[] #[]] 69))
   have HQ := am (blk_alloc (blk_below HX.out HR.out) (.cells #[.int .i64 6, .func (.func 50) #[] #[]] 69))
   replace HR := am (below_alloc HR.out (.cells #[.int .i64 6, .func (.func 50) #[] #[]] 69))
   generalize wr.alloc (.cells #[.int .i64 6, .func (.func 50) #[] #[]] 69) = wq at HA HQ HR ⊢
   generalize wr.heap.size = a at HA ⊢
   have y1 := b_v HA 1 (.func (.func 50) #[] #[]) rfl
   iterate 8 go_step
   refine wp_load_whole 28 (.tmp 1) rfl b 28 c.v (0, 0) rfl HQ.out _ Tryz.underlying28 rfl (by kernel_rfl) ?_
   clear y1
   go_wp2_with fail
   refine (show Calls Tryz.prog 50 #[.agg c.v] wq fun e w' => e = .returned (.bool (ruleB c 5)) ∧ Below wq.heap.size wq w' from rule50 wq c).mono ?_
   rintro e w3 ⟨rfl, hb⟩
   replace HR := b_s HR hb
   replace HA := b_b HA hb
   clear hb HQ
   obtain ⟨q, HV⟩ : ∃ q, Aside0 (ruleB c 5 = q) := ⟨_, ⟨rfl⟩⟩
   rw [HV.out]
   cases q with
   | true =>
    go_wp2_with fail
    go_roundw
    case rel => exact ⟨6, by decide, rfl, HR, ⟨upto_next HK.out HV.out⟩⟩
    case measure => decide
   | false =>
    have y0 := b_v HA 0 (.int .i64 6) rfl
    go_wp2_with fail
    go_ret
    exact ⟨congrArg (fun z => Ending.returned (.int .i64 z)) (first_at c 5 HV.out 14 0 (by decide) (by decide) (fun j _ hj => HK.out j hj)).symm, below_step HB.out HR.out⟩
  ·
   have ik : ∀ w, (Instr.index 70 (.agg R) (.int .i64 6)).run Tryz.prog w = .ok (.agg #[.int .i64 7, .func (.func 52) #[] #[]]) w := fun _ => by kernel_rfl
   have hcast : ((6 : Nat) : Int) = 6 := rfl
   go_upto_region 4 with fail
   have HA := am (blk_new wr (.cells #[.int .i64 7, .func (.func 52) #[] #[]] 69))
   have HQ := am (blk_alloc (blk_below HX.out HR.out) (.cells #[.int .i64 7, .func (.func 52) #[] #[]] 69))
   replace HR := am (below_alloc HR.out (.cells #[.int .i64 7, .func (.func 52) #[] #[]] 69))
   generalize wr.alloc (.cells #[.int .i64 7, .func (.func 52) #[] #[]] 69) = wq at HA HQ HR ⊢
   generalize wr.heap.size = a at HA ⊢
   have y1 := b_v HA 1 (.func (.func 52) #[] #[]) rfl
   iterate 8 go_step
   refine wp_load_whole 28 (.tmp 1) rfl b 28 c.v (0, 0) rfl HQ.out _ Tryz.underlying28 rfl (by kernel_rfl) ?_
   clear y1
   go_wp2_with fail
   refine (show Calls Tryz.prog 52 #[.agg c.v] wq fun e w' => e = .returned (.bool (ruleB c 6)) ∧ Below wq.heap.size wq w' from rule52 wq c).mono ?_
   rintro e w3 ⟨rfl, hb⟩
   replace HR := b_s HR hb
   replace HA := b_b HA hb
   clear hb HQ
   obtain ⟨q, HV⟩ : ∃ q, Aside0 (ruleB c 6 = q) := ⟨_, ⟨rfl⟩⟩
   rw [HV.out]
   cases q with
   | true =>
    go_wp2_with fail
    go_roundw
    case rel => exact ⟨7, by decide, rfl, HR, ⟨upto_next HK.out HV.out⟩⟩
    case measure => decide
   | false =>
    have y0 := b_v HA 0 (.int .i64 7) rfl
    go_wp2_with fail
    go_ret
    exact ⟨congrArg (fun z => Ending.returned (.int .i64 z)) (first_at c 6 HV.out 14 0 (by decide) (by decide) (fun j _ hj => HK.out j hj)).symm, below_step HB.out HR.out⟩
  ·
   have ik : ∀ w, (Instr.index 70 (.agg R) (.int .i64 7)).run Tryz.prog w = .ok (.agg #[.int .i64 8, .func (.func 54) #[] #[]]) w := fun _ => by kernel_rfl
   have hcast : ((7 : Nat) : Int) = 7 := rfl
   go_upto_region 4 with fail
   have HA := am (blk_new wr (.cells #[.int .i64 8, .func (.func 54) #[] #[]] 69))
   have HQ := am (blk_alloc (blk_below HX.out HR.out) (.cells #[.int .i64 8, .func (.func 54) #[] #[]] 69))
   replace HR := am (below_alloc HR.out (.cells #[.int .i64 8, .func (.func 54) #[] #[]] 69))
   generalize wr.alloc (.cells #[.int .i64 8, .func (.func 54) #[] #[]] 69) = wq at HA HQ HR ⊢
   generalize wr.heap.size = a at HA ⊢
   have y1 := b_v HA 1 (.func (.func 54) #[] #[]) rfl
   iterate 8 go_step
   refine wp_load_whole 28 (.tmp 1) rfl b 28 c.v (0, 0) rfl HQ.out _ Tryz.underlying28 rfl (by kernel_rfl) ?_
   clear y1
   go_wp2_with fail
   refine (show Calls Tryz.prog 54 #[.agg c.v] wq fun e w' => e = .returned (.bool (ruleB c 7)) ∧ Below wq.heap.size wq w' from rule54 wq c).mono ?_
   rintro e w3 ⟨rfl, hb⟩
   replace HR := b_s HR hb
   replace HA := b_b HA hb
   clear hb HQ
   obtain ⟨q, HV⟩ : ∃ q, Aside0 (ruleB c 7 = q) := ⟨_, ⟨rfl⟩⟩
   rw [HV.out]
   cases q with
   | true =>
    go_wp2_with fail
    go_roundw
    case rel => exact ⟨8, by decide, rfl, HR, ⟨upto_next HK.out HV.out⟩⟩
    case measure => decide
   | false =>
    have y0 := b_v HA 0 (.int .i64 8) rfl
    go_wp2_with fail
    go_ret
    exact ⟨congrArg (fun z => Ending.returned (.int .i64 z)) (first_at c 7 HV.out 14 0 (by decide) (by decide) (fun j _ hj => HK.out j hj)).symm, below_step HB.out HR.out⟩
  ·
   have ik : ∀ w, (Instr.index 70 (.agg R) (.int .i64 8)).run Tryz.prog w = .ok (.agg #[.int .i64 9, .func (.func 55) #[] #[]]) w := fun _ => by kernel_rfl
   have hcast : ((8 : Nat) : Int) = 8 := rfl
   go_upto_region 4 with fail
   have HA := am (blk_new wr (.cells #[.int .i64 9, .func (.func 55) #[] #[]] 69))
   have HQ := am (blk_alloc (blk_below HX.out HR.out) (.cells #[.int .i64 9, .func (.func 55) #[] #[]] 69))
   replace HR := am (below_alloc HR.out (.cells #[.int .i64 9, .func (.func 55) #[] #[]] 69))
   generalize wr.alloc (.cells #[.int .i64 9, .func (.func 55) #[] #[]] 69) = wq at HA HQ HR ⊢
   generalize wr.heap.size = a at HA ⊢
   have y1 := b_v HA 1 (.func (.func 55) #[] #[]) rfl
   iterate 8 go_step
   refine wp_load_whole 28 (.tmp 1) rfl b 28 c.v (0, 0) rfl HQ.out _ Tryz.underlying28 rfl (by kernel_rfl) ?_
   clear y1
   go_wp2_with fail
   refine (show Calls Tryz.prog 55 #[.agg c.v] wq fun e w' => e = .returned (.bool (ruleB c 8)) ∧ Below wq.heap.size wq w' from rule55 wq c).mono ?_
   rintro e w3 ⟨rfl, hb⟩
   replace HR := b_s HR hb
   replace HA := b_b HA hb
   clear hb HQ
   obtain ⟨q, HV⟩ : ∃ q, Aside0 (ruleB c 8 = q) := ⟨_, ⟨rfl⟩⟩
   rw [HV.out]
   cases q with
   | true =>
    go_wp2_with fail
    go_roundw
    case rel => exact ⟨9, by decide, rfl, HR, ⟨upto_next HK.out HV.out⟩⟩
    case measure => decide
   | false =>
    have y0 := b_v HA 0 (.int .i64 9) rfl
    go_wp2_with fail
    go_ret
    exact ⟨congrArg (fun z => Ending.returned (.int .i64 z)) (first_at c 8 HV.out 14 0 (by decide) (by decide) (fun j _ hj => HK.out j hj)).symm, below_step HB.out HR.out⟩
  ·
   have ik : ∀ w, (Instr.index 70 (.agg R) (.int .i64 9)).run Tryz.prog w = .ok (.agg #[.int .i64 10, .func (.func 57) #[] #[]]) w := fun _ => by kernel_rfl
   have hcast : ((9 : Nat) : Int) = 9 := rfl
   go_upto_region 4 with fail
   have HA := am (blk_new wr (.cells #[.int .i64 10, .func (.func 57) #[] #[]] 69))
   have HQ := am (blk_alloc (blk_below HX.out HR.out) (.cells #[.int .i64 10, .func (.func 57) #[] #[]] 69))
   replace HR := am (below_alloc HR.out (.cells #[.int .i64 10, .func (.func 57) #[] #[]] 69))
   generalize wr.alloc (.cells #[.int .i64 10, .func (.func 57) #[] #[]] 69) = wq at HA HQ HR ⊢
   generalize wr.heap.size = a at HA ⊢
   have y1 := b_v HA 1 (.func (.func 57) #[] #[]) rfl
   iterate 8 go_step
   refine wp_load_whole 28 (.tmp 1) rfl b 28 c.v (0, 0) rfl HQ.out _ Tryz.underlying28 rfl (by kernel_rfl) ?_
   clear y1
   go_wp2_with fail
   refine (show Calls Tryz.prog 57 #[.agg c.v] wq fun e w' => e = .returned (.bool (ruleB c 9)) ∧ Below wq.heap.size wq w' from rule57 wq c).mono ?_
   rintro e w3 ⟨rfl, hb⟩
   replace HR := b_s HR hb
   replace HA := b_b HA hb
   clear hb HQ
   obtain ⟨q, HV⟩ : ∃ q, Aside0 (ruleB c 9 = q) := ⟨_, ⟨rfl⟩⟩
   rw [HV.out]
   cases q with
   | true =>
    go_wp2_with fail
    go_roundw
    case rel => exact ⟨10, by decide, rfl, HR, ⟨upto_next HK.out HV.out⟩⟩
    case measure => decide
   | false =>
    have y0 := b_v HA 0 (.int .i64 10) rfl
    go_wp2_with fail
    go_ret
    exact ⟨congrArg (fun z => Ending.returned (.int .i64 z)) (first_at c 9 HV.out 14 0 (by decide) (by decide) (fun j _ hj => HK.out j hj)).symm, below_step HB.out HR.out⟩
  ·
   have ik : ∀ w, (Instr.index 70 (.agg R) (.int .i64 10)).run Tryz.prog w = .ok (.agg #[.int .i64 11, .func (.func 58) #[] #[]]) w := fun _ => by kernel_rfl
   have hcast : ((10 : Nat) : Int) = 10 := rfl
   go_upto_region 4 with fail
   have HA := am (blk_new wr (.cells #[.int .i64 11, .func (.func 58) #[] #[]] 69))
   have HQ := am (blk_alloc (blk_below HX.out HR.out) (.cells #[.int .i64 11, .func (.func 58) #[] #[]] 69))
   replace HR := am (below_alloc HR.out (.cells #[.int .i64 11, .func (.func 58) #[] #[]] 69))
   generalize wr.alloc (.cells #[.int .i64 11, .func (.func 58) #[] #[]] 69) = wq at HA HQ HR ⊢
   generalize wr.heap.size = a at HA ⊢
   have y1 := b_v HA 1 (.func (.func 58) #[] #[]) rfl
   iterate 8 go_step
   refine wp_load_whole 28 (.tmp 1) rfl b 28 c.v (0, 0) rfl HQ.out _ Tryz.underlying28 rfl (by kernel_rfl) ?_
   clear y1
   go_wp2_with fail
   refine (show Calls Tryz.prog 58 #[.agg c.v] wq fun e w' => e = .returned (.bool (ruleB c 10)) ∧ Below wq.heap.size wq w' from rule58 wq c).mono ?_
   rintro e w3 ⟨rfl, hb⟩
   replace HR := b_s HR hb
   replace HA := b_b HA hb
   clear hb HQ
   obtain ⟨q, HV⟩ : ∃ q, Aside0 (ruleB c 10 = q) := ⟨_, ⟨rfl⟩⟩
   rw [HV.out]
   cases q with
   | true =>
    go_wp2_with fail
    go_roundw
    case rel => exact ⟨11, by decide, rfl, HR, ⟨upto_next HK.out HV.out⟩⟩
    case measure => decide
   | false =>
    have y0 := b_v HA 0 (.int .i64 11) rfl
    go_wp2_with fail
    go_ret
    exact ⟨congrArg (fun z => Ending.returned (.int .i64 z)) (first_at c 10 HV.out 14 0 (by decide) (by decide) (fun j _ hj => HK.out j hj)).symm, below_step HB.out HR.out⟩
  ·
   have ik : ∀ w, (Instr.index 70 (.agg R) (.int .i64 11)).run Tryz.prog w = .ok (.agg #[.int .i64 12, .func (.func 59) #[] #[]]) w := fun _ => by kernel_rfl
   have hcast : ((11 : Nat) : Int) = 11 := rfl
   go_upto_region 4 with fail
   have HA := am (blk_new wr (.cells #[.int .i64 12, .func (.func 59) #[] #[]] 69))
   have HQ := am (blk_alloc (blk_below HX.out HR.out) (.cells #[.int .i64 12, .func (.func 59) #[] #[]] 69))
   replace HR := am (below_alloc HR.out (.cells #[.int .i64 12, .func (.func 59) #[] #[]] 69))
   generalize wr.alloc (.cells #[.int .i64 12, .func (.func 59) #[] #[]] 69) = wq at HA HQ HR ⊢
   generalize wr.heap.size = a at HA ⊢
   have y1 := b_v HA 1 (.func (.func 59) #[] #[]) rfl
   iterate 8 go_step
   refine wp_load_whole 28 (.tmp 1) rfl b 28 c.v (0, 0) rfl HQ.out _ Tryz.underlying28 rfl (by kernel_rfl) ?_
   clear y1
   go_wp2_with fail
   refine (show Calls Tryz.prog 59 #[.agg c.v] wq fun e w' => e = .returned (.bool (ruleB c 11)) ∧ Below wq.heap.size wq w' from rule59 wq c).mono ?_
   rintro e w3 ⟨rfl, hb⟩
   replace HR := b_s HR hb
   replace HA := b_b HA hb
   clear hb HQ
   obtain ⟨q, HV⟩ : ∃ q, Aside0 (ruleB c 11 = q) := ⟨_, ⟨rfl⟩⟩
   rw [HV.out]
   cases q with
   | true =>
    go_wp2_with fail
    go_roundw
    case rel => exact ⟨12, by decide, rfl, HR, ⟨upto_next HK.out HV.out⟩⟩
    case measure => decide
   | false =>
    have y0 := b_v HA 0 (.int .i64 12) rfl
    go_wp2_with fail
    go_ret
    exact ⟨congrArg (fun z => Ending.returned (.int .i64 z)) (first_at c 11 HV.out 14 0 (by decide) (by decide) (fun j _ hj => HK.out j hj)).symm, below_step HB.out HR.out⟩
  ·
   have ik : ∀ w, (Instr.index 70 (.agg R) (.int .i64 12)).run Tryz.prog w = .ok (.agg #[.int .i64 13, .func (.func 60) #[] #[]]) w := fun _ => by kernel_rfl
   have hcast : ((12 : Nat) : Int) = 12 := rfl
   go_upto_region 4 with fail
   have HA := am (blk_new wr (.cells #[.int .i64 13, .func (.func 60) #[] #[]] 69))
   have HQ := am (blk_alloc (blk_below HX.out HR.out) (.cells #[.int .i64 13, .func (.func 60) #[] #[]] 69))
   replace HR := am (below_alloc HR.out (.cells #[.int .i64 13, .func (.func 60) #[] #[]] 69))
   generalize wr.alloc (.cells #[.int .i64 13, .func (.func 60) #[] #[]] 69) = wq at HA HQ HR ⊢
   generalize wr.heap.size = a at HA ⊢
   have y1 := b_v HA 1 (.func (.func 60) #[] #[]) rfl
   iterate 8 go_step
   refine wp_load_whole 28 (.tmp 1) rfl b 28 c.v (0, 0) rfl HQ.out _ Tryz.underlying28 rfl (by kernel_rfl) ?_
   clear y1
   go_wp2_with fail
   refine (show Calls Tryz.prog 60 #[.agg c.v] wq fun e w' => e = .returned (.bool (ruleB c 12)) ∧ Below wq.heap.size wq w' from rule60 wq c).mono ?_
   rintro e w3 ⟨rfl, hb⟩
   replace HR := b_s HR hb
   replace HA := b_b HA hb
   clear hb HQ
   obtain ⟨q, HV⟩ : ∃ q, Aside0 (ruleB c 12 = q) := ⟨_, ⟨rfl⟩⟩
   rw [HV.out]
   cases q with
   | true =>
    go_wp2_with fail
    go_roundw
    case rel => exact ⟨13, by decide, rfl, HR, ⟨upto_next HK.out HV.out⟩⟩
    case measure => decide
   | false =>
    have y0 := b_v HA 0 (.int .i64 13) rfl
    go_wp2_with fail
    go_ret
    exact ⟨congrArg (fun z => Ending.returned (.int .i64 z)) (first_at c 12 HV.out 14 0 (by decide) (by decide) (fun j _ hj => HK.out j hj)).symm, below_step HB.out HR.out⟩
  ·
   have ik : ∀ w, (Instr.index 70 (.agg R) (.int .i64 13)).run Tryz.prog w = .ok (.agg #[.int .i64 14, .func (.func 61) #[] #[]]) w := fun _ => by kernel_rfl
   have hcast : ((13 : Nat) : Int) = 13 := rfl
   go_upto_region 4 with fail
   have HA := am (blk_new wr (.cells #[.int .i64 14, .func (.func 61) #[] #[]] 69))
   have HQ := am (blk_alloc (blk_below HX.out HR.out) (.cells #[.int .i64 14, .func (.func 61) #[] #[]] 69))
   replace HR := am (below_alloc HR.out (.cells #[.int .i64 14, .func (.func 61) #[] #[]] 69))
   generalize wr.alloc (.cells #[.int .i64 14, .func (.func 61) #[] #[]] 69) = wq at HA HQ HR ⊢
   generalize wr.heap.size = a at HA ⊢
   have y1 := b_v HA 1 (.func (.func 61) #[] #[]) rfl
   iterate 8 go_step
   refine wp_load_whole 28 (.tmp 1) rfl b 28 c.v (0, 0) rfl HQ.out _ Tryz.underlying28 rfl (by kernel_rfl) ?_
   clear y1
   go_wp2_with fail
   refine (show Calls Tryz.prog 61 #[.agg c.v] wq fun e w' => e = .returned (.bool (ruleB c 13)) ∧ Below wq.heap.size wq w' from rule61 wq c).mono ?_
   rintro e w3 ⟨rfl, hb⟩
   replace HR := b_s HR hb
   replace HA := b_b HA hb
   clear hb HQ
   obtain ⟨q, HV⟩ : ∃ q, Aside0 (ruleB c 13 = q) := ⟨_, ⟨rfl⟩⟩
   rw [HV.out]
   cases q with
   | true =>
    go_wp2_with fail
    go_roundw
    case rel => exact ⟨14, by decide, rfl, HR, ⟨upto_next HK.out HV.out⟩⟩
    case measure => decide
   | false =>
    have y0 := b_v HA 0 (.int .i64 14) rfl
    go_wp2_with fail
    go_ret
    exact ⟨congrArg (fun z => Ending.returned (.int .i64 z)) (first_at c 13 HV.out 14 0 (by decide) (by decide) (fun j _ hj => HK.out j hj)).symm, below_step HB.out HR.out⟩
  have hcast : ((14 : Nat) : Int) = 14 := rfl
  go_wp2_with fail
  go_ret
  exact ⟨congrArg (fun z => Ending.returned (.int .i64 z)) (first_none c 14 0 (fun j _ hj => HK.out j hj)).symm, below_step HB.out HR.out⟩
end Go.Proofs.YtpdahkgandaabaaGreatDoor.Ch
