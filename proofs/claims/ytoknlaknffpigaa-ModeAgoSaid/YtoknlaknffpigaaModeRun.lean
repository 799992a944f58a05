/- The clocks behind events, one behind the other, as one slice (layer 19): the walk of Run, whose loop goes over the iterator of clocks. -/
import Derived.Test.YtoknlaknffpigaaModeIter
import Derived.Maps.OwnIn
import Derived.Deep.DeepMust
namespace Go.Proofs.Ytoknlaknffpigaa.Mi
open Go.RowKit Go.Shelf Go.Proofs.YtoknlaknffpigaaW.PrintWords Go.Proofs.Ytoknlaknffpigaa.Mp Go.Proofs.Ytoknlaknffpigaa.Ro

attribute [local go_sem] Oper.semAt_some

theorem info55 : (Try.prog.info? 55).map (fun i => (i.zero, i.size, i.bytes)) = some (some (.agg #[.int .i64 0, .int .i64 0]), 2, 16) := by kernel_rfl

theorem clocks_any (w : World) (A : Option Addr) (n cap : Nat) (co ou : Int) :
    Calls Try.prog 52 #[.slice A n cap, .int .i64 co, .int .i64 ou] w fun e w' => e = .returned (.func (.func 59) #[] #[.pointer (some ⟨w.heap.size, 0, none⟩), .pointer (some ⟨w.heap.size + 1, 0, none⟩), .pointer (some ⟨w.heap.size + 2, 0, none⟩)]) ∧
      w' = ((w.alloc (.cells #[.slice A n cap] 61)).alloc (.cells #[.int .i64 co] 2)).alloc (.cells #[.int .i64 ou] 2) := by
  go_enter Try.func52, Try.ntmps52
  go_wp2
  go_ret
  exact ⟨rfl, rfl⟩

def flat (l : List (Int × Int)) : List Value := l.flatMap fun q => [.int .i64 q.1, .int .i64 q.2]
theorem flat_snoc (l : List (Int × Int)) (q : Int × Int) : flat (l ++ [q]) = flat l ++ [.int .i64 q.1, .int .i64 q.2] := by simp [flat]
theorem flat_length (l : List (Int × Int)) : (flat l).length = l.length * 2 := by
  induction l with
  | nil => rfl
  | cons q t ih => simp only [flat, List.flatMap_cons, List.length_append, List.length_cons, List.length_nil] at ih ⊢; omega

/-- What the loop's rounds keep: the clocks so far, in a row of the call's own, boxed. -/
structure Inv (w : World) (B c : Nat) (A : Option Addr) (n cap : Nat) (co ou : Int) (pre : List (Int × Int)) (W : World) : Prop where
  box : ∃ v, Boxed W B 62 v ∧ W.ownsRow w.heap.size 55 2 v pre.length (flat pre) ∧ v.ownBlock ≠ some c
  e : W.heap[B + 1]? = some (.cells #[.slice A n cap] 61 (0, 0))
  c : W.heap[B + 1 + 1]? = some (.cells #[.int .i64 co] 2 (0, 0))
  o : W.heap[B + 1 + 2]? = some (.cells #[.int .i64 ou] 2 (0, 0))
  below : Below w.heap.size w W

section
variable {w : World} {B c : Nat} {A : Option Addr} {n cap : Nat} {co ou : Int} {pre : List (Int × Int)} {X Y : World}
/-- A step that leaves the loop's blocks as they lay. -/
theorem Inv.step (h : Inv w B c A n cap co ou pre X) {row : Option Nat} (hg : X.grownBy Y row) (hw : w.heap.size ≤ X.heap.size) (hr : ∀ r, row = some r → w.heap.size ≤ r ∧ r ≠ B ∧ r ≠ B + 1 ∧ r ≠ B + 1 + 1 ∧ r ≠ B + 1 + 2 ∧
    (∀ v, Boxed X B 62 v → X.ownsRow w.heap.size 55 2 v pre.length (flat pre) → v.ownBlock ≠ some c → v.ownBlock ≠ some r)) : Inv w B c A n cap co ou pre Y := by
  obtain ⟨⟨v, hv, hrow, hne⟩, he, hc, ho, hb⟩ := h
  refine ⟨⟨v, hv.kept hg (fun e => (hr B e.symm).2.1 rfl), hrow.kept hg ?_, hne⟩, blk_grown he hg (fun e => (hr _ e.symm).2.2.1 rfl), blk_grown hc hg (fun e => (hr _ e.symm).2.2.2.1 rfl), blk_grown ho hg (fun e => (hr _ e.symm).2.2.2.2.1 rfl),
    hb.grown hg hw (fun k e => (hr k e).1)⟩
  cases row with
  | none =>
    cases hv' : v.ownBlock with
    | none => exact .inl rfl
    | some b => exact .inr (by simp)
  | some r => exact .inr ((hr r rfl).2.2.2.2.2 v hv hrow hne)
end

set_option maxRecDepth 100000 in
set_option maxHeartbeats 4000000 in
theorem run_any (w : World) (A : Option Addr) (cap : Nat) (evs : List Int) (co ou : Int) (hR : Kd.C (Kd.int .i64) w A evs.length evs) (hlen : evs.length ≤ 1000) :
    Calls Try.prog 38 #[.slice A evs.length cap, .int .i64 co, .int .i64 ou] w fun e w' => ∃ v, e = .returned v ∧ w'.ownsRow w.heap.size 55 2 v evs.length (flat (runs co ou evs evs.length)) ∧ Below w.heap.size w w' := by
  obtain ⟨i0, hi, hz0, hz1, hz2⟩ := info_parts info55
  have HR := Aside0.mk hR
  clear hR
  refine (callsIn_wide (n := 3)).1 ?_
  refine callsIn_of_wp_marks Try.func38 rfl trivial ?_ rfl
  simp only [Try.ntmps38, List.size_toArray, List.length_cons, List.length_nil, Nat.reduceAdd, Nat.reduceSub, Array.replicate_succ, Array.replicate_zero, List.push_toArray, List.append_toArray, List.nil_append, List.cons_append]
  gi_wp2_with (refine ⟨trivial, ?_⟩; gi_at_call 52; refine (callsIn_wide.2 (clocks_any _ A evs.length cap co ou)).mono ?_; rintro e w' ⟨rfl, rfl⟩)
  obtain ⟨WR, hWR⟩ : ∃ WR : World, WR = (((w.alloc (.cells #[.slice none 0 0] 62)).alloc (.cells #[.slice A evs.length cap] 61)).alloc (.cells #[.int .i64 co] 2)).alloc (.cells #[.int .i64 ou] 2) := ⟨_, rfl⟩
  rw [← hWR]
  have hz : WR.heap.size = w.heap.size + 4 := by rw [hWR]; simp
  have HI0 : Aside0 (Inv w w.heap.size (WR.heap.size + 2) A evs.length cap co ou [] WR) := by
    rw [hWR]
    have b0 := Boxed.new w 62 (.slice none 0 0)
    have b1 : (w.alloc (.cells #[.slice none 0 0] 62) |>.alloc (.cells #[.slice A evs.length cap] 61)).heap[w.heap.size + 1]? = some (.cells #[.slice A evs.length cap] 61 (0, 0)) := by
      have h := blk_new (w.alloc (.cells #[.slice none 0 0] 62)) (.cells #[.slice A evs.length cap] 61)
      rwa [World.size_alloc] at h
    have b2 : ((w.alloc (.cells #[.slice none 0 0] 62) |>.alloc (.cells #[.slice A evs.length cap] 61)).alloc (.cells #[.int .i64 co] 2)).heap[w.heap.size + 1 + 1]? = some (.cells #[.int .i64 co] 2 (0, 0)) := by
      have h := blk_new (w.alloc (.cells #[.slice none 0 0] 62) |>.alloc (.cells #[.slice A evs.length cap] 61)) (.cells #[.int .i64 co] 2)
      rwa [World.size_alloc, World.size_alloc] at h
    have b3 : (((w.alloc (.cells #[.slice none 0 0] 62) |>.alloc (.cells #[.slice A evs.length cap] 61)).alloc (.cells #[.int .i64 co] 2)).alloc (.cells #[.int .i64 ou] 2)).heap[w.heap.size + 1 + 2]? = some (.cells #[.int .i64 ou] 2 (0, 0)) := by
      have h := blk_new ((w.alloc (.cells #[.slice none 0 0] 62) |>.alloc (.cells #[.slice A evs.length cap] 61)).alloc (.cells #[.int .i64 co] 2)) (.cells #[.int .i64 ou] 2)
      rwa [World.size_alloc, World.size_alloc, World.size_alloc] at h
    exact ⟨⟨_, ((b0.alloc _).alloc _).alloc _, World.ownsRow_nil _ _ _ _, by simp [Value.ownBlock]⟩, blk_alloc (blk_alloc b1 _) _, blk_alloc b2 _, b3,
      (((((Below.refl _ w).alloc (Nat.le_refl _) _).alloc (by simp) _).alloc (by simp; omega) _).alloc (by simp; omega) _)⟩
  clear hWR
  have hc6 : WR.heap.size + 2 = w.heap.size + 6 := by omega
  refine range_priv (F := Fence.wide) (n := 3) rfl (by omega) (gf := 59) (lb := #[.pointer (some ⟨w.heap.size + 1, 0, none⟩), .pointer (some ⟨w.heap.size + 1 + 1, 0, none⟩), .pointer (some ⟨w.heap.size + 1 + 2, 0, none⟩)]) rfl trivial (enters_of Try.func59 (by kernel_rfl) rfl)
    (encs := enc) (Kp := Keeps w.heap.size (fun b => b = w.heap.size + 1 ∨ b = w.heap.size + 1 + 1 ∨ b = w.heap.size + 1 + 2 ∨ b = WR.heap.size + 2)) (S := fun xs => xs = runs co ou evs evs.length) (N := evs.length)
    ?iter ?kt ?kb (fun x => rfl) (fun pre W => Inv w w.heap.size (WR.heap.size + 2) A evs.length cap co ou pre W) ?own ?priv HI0.out
    (fun x a' W => ∃ bx, WR.heap.size + 2 < bx ∧ ClockAt W bx x ∧ a' = { tmps := #[.slice A evs.length cap, .int .i64 co, .int .i64 ou, undef, undef, undef, .slice none 0 0, .pointer (some ⟨w.heap.size, 0, none⟩), .pointer (some ⟨bx, 0, none⟩), .slice A evs.length cap, .int .i64 co, .int .i64 ou, .func (.func 59) #[] #[.pointer (some ⟨w.heap.size + 1, 0, none⟩), .pointer (some ⟨w.heap.size + 1 + 1, 0, none⟩), .pointer (some ⟨w.heap.size + 1 + 2, 0, none⟩)], .agg #[.int .i64 x.1, .int .i64 x.2], undef, undef, undef, undef, undef], defers := [] })
    ?ax ?assign ?body ?done
  case iter =>
    intro l J W hb hsz hJ hJp hY h0
    have hsz2 : W.heap.size = WR.heap.size + 2 := hsz
    have hInv := HI0.out
    have he := blk_below (hInv.e) (hb)
    have hc := blk_below (hInv.c) (hb)
    have ho := blk_below (hInv.o) (hb)
    refine (clocks1_in 2 (by omega) l (w.heap.size + 1) (w.heap.size + 1 + 1) (w.heap.size + 1 + 2) w.heap.size A cap evs co ou (fun b => b = w.heap.size + 1 ∨ b = w.heap.size + 1 + 1 ∨ b = w.heap.size + 1 + 2 ∨ b = WR.heap.size + 2) W (.inl rfl) (.inr (.inl rfl)) (.inr (.inr (.inl rfl))) (.inr (.inr (.inr hsz2)))
      ?hA (Kd.C_below (Kd.C_below HR.out hInv.below) hb) (by omega) he hc ho J hJ ?hJp ?hY h0)
    case hA =>
      intro hp ad e
      subst e
      have h := Kd.foot_int HR.out 0 (by omega) (by omega)
      have hlt := World.block_lt_of_cell? w _ h
      simpa [Addr.add] using hlt
    case hJp => rw [hsz2]; exact hJp
    case hY =>
      intro pre x W1 hj hl hlt
      exact hY pre x W1 hj hl (by omega)
  case kt =>
    intro X Y Z h k
    exact ⟨h.1.trans k.1, fun b o hS ho hc => k.2 b o hS (h.2 b o hS ho hc) hc⟩
  case kb =>
    intro W l o o' hl ho hc hwk
    refine ⟨(Below.refl _ W).grown (grownBy_putObj' W l o') (by have := blk_lt ho; omega) (fun k e => by cases e; omega), fun b p hS hp hpc => ?_⟩
    refine (World.putObj_heap_other (fun e => ?_)).trans hp
    subst e
    rw [ho] at hp
    injection hp with hp
    rw [hp, hpc] at hc
    cases hc
  case own =>
    intro s X Y row hs hg hr
    refine Inv.step hs hg (by have := hs.below.size; omega) (fun r e => ?_)
    obtain ⟨hle, o, ho, hoc⟩ := hr r e
    refine ⟨by omega, by omega, by omega, by omega, by omega, fun v hv hrow hne e2 => ?_⟩
    rcases hrow.2 with ⟨rfl, _⟩ | ⟨g, cp, cur, rfl, _, hgb, _⟩
    · simp [Value.ownBlock] at e2
    · obtain rfl : g = r := by simpa [Value.ownBlock] using e2
      rw [hgb] at ho
      injection ho with ho
      rw [← ho] at hoc
      cases hoc
  case priv =>
    intro s X Y hs hg hcc
    exact Inv.step hs hg (by have := hs.below.size; omega) (fun r e => by injection e with e; subst e; exact ⟨by omega, by omega, by omega, by omega, by omega, fun v _ _ hne => hne⟩)
  case ax =>
    intro x a' s X Y row hs hg hr
    obtain ⟨bx, h1, h2, h3⟩ := hs
    refine ⟨bx, h1, blk_grown h2 hg (fun e => ?_), h3⟩
    obtain ⟨_, o, ho, hoc⟩ := hr bx e.symm
    rw [show X.heap[bx]? = _ from h2] at ho
    injection ho with ho
    rw [← ho] at hoc
    cases hoc
  case assign =>
    intro l pre x W K hI hlt hK
    have HI := Aside0.mk hI
    have HK := Aside0.mk hK
    clear hI hK
    have hx : enc x = #[.agg #[.int .i64 x.1, .int .i64 x.2]] := rfl
    rw [hx]
    clear hx
    gi_wp2
    refine HK.out _ _ ((KeepsOthers.alloc W _).from _) ⟨(Below.refl _ W).alloc HI.out.below.size _, fun b o _ ho _ => blk_alloc ho _⟩ (HI.out.step (World.grownBy_alloc W _ none) HI.out.below.size (fun r e => by cases e)) ⟨W.heap.size, hlt, blk_new _ _, rfl⟩
  case body =>
    rintro l pre x a' W hl hlt hI ⟨bx, hbx, hX, rfl⟩ hpl
    have HI := Aside0.mk hI
    have HX := Aside0.mk hX
    clear hI hX
    obtain ⟨v, hv, hrow, hne⟩ := HI.out.box
    have HV := Aside0.mk hv
    have HROW := Aside0.mk hrow
    have HNE := Aside0.mk hne
    clear hv hrow hne
    have hc0 := HV.out.cell
    have x0 : W.cell? ⟨bx, 0, none⟩ = some (.int .i64 x.1) := (blk_cell HX.out 0).trans rfl
    have x1 : W.cell? ⟨bx, 1, none⟩ = some (.int .i64 x.2) := (blk_cell HX.out 1).trans rfl
    have hsz := HI.out.below.size
    gi_wp2_with (gi_at_builtin; go_must (refine wpListIn_append_own_at _ rfl _ _ 62 rfl w.heap.size 55 i0 (.agg #[.int .i64 0, .int .i64 0]) 2 16 Try.underlying62 hi hz0 hz1 hz2 rfl (by decide) _ pre.length (flat pre) rfl (HROW.out.alloc _) ⟨W.heap.size, 0, none⟩ 1 1 [.int .i64 x.1, .int .i64 x.2] rfl rfl ?c1 ?c2 ?c3 ?c4 ?c5 ?_; (case c1 => exact World.news_of_block (cs := #[.int .i64 x.1, .int .i64 x.2]) (t := 55) (fr := (0, 0)) (heap_alloc_new W _)); (case c2 => simp [Value.oneCell']); (case c3 => unfold maxLen; omega); (case c4 => omega); (case c5 => simp; omega); intro v' w1 hown' hgrow _ hat; obtain ⟨g', cap', rfl⟩ := ownsRow_succ hown'; obtain ⟨hv1, hv2, hr2, hk2, hb2⟩ := HV.out.appended (by decide) HROW.out hsz (Nat.le_refl _) hown' hgrow; have hc1 := hv1.cell; have hf1 := hv1.frozen))
    have hat2 : (Value.slice (some ⟨g', 0, none⟩) (pre.length + 1) cap').ownBlock = v.ownBlock ∨ (Value.slice (some ⟨g', 0, none⟩) (pre.length + 1) cap').ownBlock = some (W.heap.size + 1) := by
      have h := hat
      rw [World.size_alloc] at h
      exact h
    have hgr : (W.alloc (.cells #[.int .i64 x.1, .int .i64 x.2] 55)).grownBy w1 v.ownBlock := hgrow
    have hty : ∀ b cs t, t ≠ 55 → W.heap[b]? = some (.cells cs t (0, 0)) → some b ≠ v.ownBlock := fun b cs t ht hb e => by
      rcases HROW.out.2 with ⟨rfl, _⟩ | ⟨gg, cp, cur, rfl, _, hgb, _⟩
      · simp [Value.ownBlock] at e
      · obtain rfl : b = gg := by simpa [Value.ownBlock] using e
        rw [hgb] at hb
        injection hb with hb
        injection hb with _ hb
        exact ht hb.symm
    have keep : ∀ b o, W.heap.size > b → b ≠ w.heap.size → some b ≠ v.ownBlock → W.heap[b]? = some o → (w1.setCell ⟨w.heap.size, 0, none⟩ (.slice (some ⟨g', 0, none⟩) (pre.length + 1) cap')).heap[b]? = some o := fun b o hb hne1 hne2 ho => by
      rw [Below.heap_setCell w1 ⟨w.heap.size, 0, none⟩ _ b hne1, hgr.block b (by rw [World.size_alloc]; omega) hne2, Below.heap_alloc W _ b hb]
      exact ho
    have ke := keep _ _ (blk_lt HI.out.e) (by omega) (hty _ _ _ (by decide) HI.out.e) HI.out.e
    have kc := keep _ _ (blk_lt HI.out.c) (by omega) (hty _ _ _ (by decide) HI.out.c) HI.out.c
    have ko := keep _ _ (blk_lt HI.out.o) (by omega) (hty _ _ _ (by decide) HI.out.o) HI.out.o
    refine ⟨hk2.from _, ⟨hb2, fun b o hS ho _ => ?_⟩, ⟨⟨_, hv2, ?_, ?_⟩, ke, kc, ko, HI.out.below.trans hb2⟩⟩
    · rcases hS with rfl | rfl | rfl | rfl
      · have h := HI.out.e
        rw [ho] at h
        rw [h]
        exact ke
      · have h := HI.out.c
        rw [ho] at h
        rw [h]
        exact kc
      · have h := HI.out.o
        rw [ho] at h
        rw [h]
        exact ko
      · exact keep _ _ hlt (by omega) (fun e => HNE.out e.symm) ho
    · rw [List.length_append, flat_snoc]
      exact hr2
    · rcases hat2 with h | h
      · rw [h]
        exact HNE.out
      · rw [h]
        intro e
        injection e with e
        omega
  case done =>
    rintro D ys W hD rfl hI hK
    obtain ⟨v, hv, hrow, hne⟩ := hI.box
    have HI := Aside0.mk hI
    have HROW := Aside0.mk hrow
    clear hI hrow hne
    have hc := hv.cell
    gi_wp2
    refine ⟨by simp, .inl ⟨_, _, rfl, run_takeDeferred hK, ?_⟩⟩
    have hown := HROW.out
    rw [runs_length] at hown
    exact ⟨_, results_tmp rfl _ _ _, v, rfl, ownsRow_putObj hown _ hK rfl, HI.out.below.trans (belowK_b (w := w) (Nat.le_refl _) W D _ _ (by omega) hK rfl rfl)⟩
end Go.Proofs.Ytoknlaknffpigaa.Mi
