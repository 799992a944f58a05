/- A channel as memory holds it (layer 20): what stays, what a first sample changes. -/
import Derived.Test.YtpdahkgandaabaaGreatDoorNew
import Derived.Test.YtpdahkgandaabaaGreatDoorAlt
namespace Go.Proofs.YtpdahkgandaabaaGreatDoor.Ch
open Go.RowKit Go.Proofs.YtpdahkgandaabaaGreatDoorW.PrintWords Go.Proofs.YtpdahkgandaabaaGreatDoorW.PrintLast Go.Proofs.YtpdahkgandaabaaGreatDoorW.PrintMore Go.Proofs.YtpdahkgandaabaaGreatDoor.PTopNames Go.Proofs.YtpdahkgandaabaaGreatDoor.Al
set_option linter.unusedVariables false
set_option linter.unusedSimpArgs false

theorem good_is (w : World) (c : Int) (b : Bool) (h : good c = b) : Calls Tryz.prog 91 #[.int .i64 c] w fun e w' => e = .returned (.bool b) ∧ Below w.heap.size w w' := by
  rw [← h]
  exact good_any w c
set_option maxRecDepth 100000 in
set_option maxHeartbeats 4000000 in
theorem set_any (w0 w : World) (g : Nat) (band noise rough count : Int) (known : Bool) (c : Int) (hI : IsS93 w0 w g band noise rough count known) (hB : Below w0.heap.size w0 w) :
    Calls Tryz.prog 66 #[.pointer (some ⟨g, 0, none⟩), .int .i64 c] w fun e w' => e = .returned (.int .i64 (if good c then (if known then 7 else 0) else 2)) ∧
      IsS93 w0 w' g band noise rough (if good c && !known then c else count) (known || good c) ∧ Below w0.heap.size w0 w' ∧ KeepBut w w' g none := by
  have HI := Aside0.mk hI
  have HB := Aside0.mk hB
  clear hI hB
  cases hg : good c with
  | false =>
    go_enter Tryz.func66, Tryz.ntmps66
    go_wp2_with fail
    refine (good_is _ c false hg).mono ?_
    rintro e w1 ⟨rfl, hb⟩
    go_wp2_with fail
    go_ret
    exact ⟨rfl, by simpa using HI.out.below hb, below_step HB.out hb, KeepBut.of_below hb _ _⟩
  | true =>
    cases known with
    | true =>
      go_enter Tryz.func66, Tryz.ntmps66
      go_wp2_with fail
      refine (good_is _ c true hg).mono ?_
      rintro e w1 ⟨rfl, hb⟩
      have HI1 := Aside0.mk (HI.out.below hb)
      replace HB := Aside0.mk (below_step HB.out hb)
      have HK := Aside0.mk (KeepBut.of_below hb g none)
      have x4 := cellS93_4 HI1.out.1
      clear hb
      go_wp2_with fail
      go_ret
      exact ⟨rfl, by simpa using HI1.out, HB.out, HK.out⟩
    | false =>
      go_enter Tryz.func66, Tryz.ntmps66
      go_wp2_with fail
      refine (good_is _ c true hg).mono ?_
      rintro e w1 ⟨rfl, hb⟩
      have HI1 := Aside0.mk (HI.out.below hb)
      replace HB := Aside0.mk (below_step HB.out hb)
      have HK := Aside0.mk (KeepBut.of_below hb g none)
      have x3 := cellS93_3 HI1.out.1
      have x4 := cellS93_4 HI1.out.1
      have f3 := blk_frozen HI1.out.1 3
      have f4 := blk_frozen HI1.out.1 4
      clear hb
      go_wp2_with fail
      go_ret
      refine ⟨rfl, ?_, ?_, (HK.out.set_ 3 _).set_ 4 _⟩
      · simpa using (HI1.out.set_3 c).set_4 true
      · exact (HB.out.setCell (p := ⟨g, 3, none⟩) HI1.out.ge _).setCell (p := ⟨g, 4, none⟩) HI1.out.ge _

/-- A channel at block g of W, its feed at f, its ground at gr; all of it came in behind w0. -/
structure Chan (w0 W : World) (g f gr : Nat) (s : Gs) (c : Cf) (v : Value) (mode since last run band noise rough count : Int) (known : Bool) (l : List Int) : Prop where
  hg : W.heap[g]? = some (.cells (chanV s c f gr v mode since) 56 (0, 0))
  hf : W.heap[f]? = some (.cells (feedV last run c) 101 (0, 0))
  hi : IsS93 w0 W gr band noise rough count known
  hr : Kd.R (Kd.int .i64) 2 W w0.heap.size (fun _ => True) v l
  g0 : w0.heap.size ≤ g
  f0 : w0.heap.size ≤ f
  hb : Below w0.heap.size w0 W
section
variable {w0 W W' : World} {g f gr : Nat} {s s' : Gs} {c : Cf} {v v' : Value} {mode since mode' since' last run band noise rough count : Int} {known : Bool} {l l' : List Int}
theorem Chan.below (h : Chan w0 W g f gr s c v mode since last run band noise rough count known l) (hb : Below W.heap.size W W') : Chan w0 W' g f gr s c v mode since last run band noise rough count known l :=
  ⟨blk_below h.hg hb, blk_below h.hf hb, h.hi.below hb, Kd.R_below h.hr hb, h.g0, h.f0, below_step h.hb hb⟩
theorem Chan.drewN (h : Chan w0 W g f gr s c v mode since last run band noise rough count known l) (n : Nat) : Chan w0 (W.drewN n) g f gr s c v mode since last run band noise rough count known l :=
  h.below (pw_below_drewN (Below.refl _ _) n)
theorem Chan.alloc (h : Chan w0 W g f gr s c v mode since last run band noise rough count known l) (o : Obj) : Chan w0 (W.alloc o) g f gr s c v mode since last run band noise rough count known l :=
  h.below (below_alloc (Below.refl _ _) o)
theorem Chan.fg (h : Chan w0 W g f gr s c v mode since last run band noise rough count known l) : f ≠ g := blk_ne h.hf h.hg (by decide)
theorem Chan.gg (h : Chan w0 W g f gr s c v mode since last run band noise rough count known l) : gr ≠ g := h.hi.ne_blk h.hg (by decide)
theorem Chan.row (h : Chan w0 W g f gr s c v mode since last run band noise rough count known l) : some g ≠ v.ownBlock := Kd.R_ne h.hr h.hg (by decide)
/-- A store into the channel's own block, but not of the first samples. -/
theorem Chan.set (h : Chan w0 W g f gr s c v mode since last run band noise rough count known l) (i : Nat) (u : Value) (e : (chanV s c f gr v mode since).setIfInBounds i u = chanV s' c f gr v mode' since') :
    Chan w0 (W.setCell ⟨g, i, none⟩ u) g f gr s' c v mode' since' last run band noise rough count known l :=
  ⟨e ▸ blk_set h.hg i u, blk_far h.hf h.fg u, h.hi.far h.gg u, Kd.R_mono (Kd.R_far (p := ⟨g, i, none⟩) (Kd.R_tight rfl h.hr) (fun k hk e => h.row (by rw [← hk, e])) _) (fun _ _ => trivial), h.g0, h.f0, h.hb.setCell (p := ⟨g, i, none⟩) h.g0 _⟩
/-- The first samples grown by an append, and stored. -/
theorem Chan.grow (h : Chan w0 W g f gr s c v mode since last run band noise rough count known l) (hb : Below w0.heap.size w0 W') (hw : W.grownBy W' v.ownBlock) (hr : Kd.R (Kd.int .i64) 2 W' w0.heap.size (fun _ => True) v' l') :
    Chan w0 (W'.setCell ⟨g, 41, none⟩ v') g f gr s c v' mode since last run band noise rough count known l' := by
  have hg' : W'.heap[g]? = some (.cells (chanV s c f gr v mode since) 56 (0, 0)) := blk_grown h.hg hw h.row
  have hf' : W'.heap[f]? = some (.cells (feedV last run c) 101 (0, 0)) := blk_grown h.hf hw (Kd.R_ne h.hr h.hf (by decide))
  have hi' : IsS93 w0 W' gr band noise rough count known := h.hi.grown hw (h.hi.own_ne h.hr (by decide))
  have hne := Kd.R_ne hr hg' (by decide)
  exact ⟨(show (chanV s c f gr v mode since).setIfInBounds 41 v' = chanV s c f gr v' mode since by kernel_rfl) ▸ blk_set hg' 41 v', blk_far hf' h.fg v', hi'.far h.gg v', Kd.R_mono (Kd.R_far (p := ⟨g, 41, none⟩) (Kd.R_tight rfl hr) (fun k hk e => hne (by rw [← hk, e])) _) (fun _ _ => trivial), h.g0, h.f0, hb.setCell (p := ⟨g, 41, none⟩) h.g0 _⟩
/-- A call that changed the ground alone. -/
theorem Chan.ground (h : Chan w0 W g f gr s c v mode since last run band noise rough count known l) {count' : Int} {known' : Bool} (hi : IsS93 w0 W' gr band noise rough count' known') (hb : Below w0.heap.size w0 W') (hk : KeepBut W W' gr none) :
    Chan w0 W' g f gr s c v mode since last run band noise rough count' known' l :=
  ⟨(hk.2 g (blk_lt h.hg) (Ne.symm h.gg) (by simp)).trans h.hg, (hk.2 f (blk_lt h.hf) (Ne.symm (h.hi.ne_blk h.hf (by decide))) (by simp)).trans h.hf, hi,
    Kd.R_mono (Kd.R_keep (Kd.R_tight rfl h.hr) hk (fun k hk e => h.hi.own_ne h.hr (by decide) (by rw [← hk, e]))) (fun _ _ => trivial), h.g0, h.f0, hb⟩
/-- A call that changed the feed alone. -/
theorem Chan.fed (h : Chan w0 W g f gr s c v mode since last run band noise rough count known l) {last' run' : Int} (hf : W'.heap[f]? = some (.cells (feedV last' run' c) 101 (0, 0))) (hb : Below w0.heap.size w0 W') (hk : KeepBut W W' f none) :
    Chan w0 W' g f gr s c v mode since last' run' band noise rough count known l :=
  ⟨(hk.2 g (blk_lt h.hg) (Ne.symm h.fg) (by simp)).trans h.hg, hf, h.hi.kept (S := fun k => k = f) ⟨hk.1, fun i hi hn => hk.2 i hi hn (by simp)⟩ (h.hi.ne_blk h.hf (by decide)),
    Kd.R_mono (Kd.R_keep (Kd.R_tight rfl h.hr) hk (fun k hk e => (Kd.R_ne h.hr h.hf (by decide)) (by rw [← hk, e]))) (fun _ _ => trivial), h.g0, h.f0, hb⟩
/-- The guess stored. -/
theorem Chan.guess (h : Chan w0 W g f gr s c v mode since last run band noise rough count known l) (s' : Gs) :
    Chan w0 (((((((((W.setCell ⟨g, 0, none⟩ (.int .i64 s'.x0)).setCell ⟨g, 1, none⟩ (.int .i64 s'.x1)).setCell ⟨g, 2, none⟩ (.int .i64 s'.x2)).setCell ⟨g, 3, none⟩ (.int .i64 s'.p0)).setCell ⟨g, 4, none⟩ (.int .i64 s'.p1)).setCell ⟨g, 5, none⟩ (.int .i64 s'.p2)).setCell ⟨g, 6, none⟩ (.int .i64 s'.p3)).setCell ⟨g, 7, none⟩ (.int .i64 s'.p4)).setCell ⟨g, 8, none⟩ (.int .i64 s'.p5))
      g f gr s' c v mode since last run band noise rough count known l := by
  have h1 := h.set 0 (.int .i64 s'.x0) (s' := ⟨s'.x0, s.x1, s.x2, s.p0, s.p1, s.p2, s.p3, s.p4, s.p5⟩) (mode' := mode) (since' := since) (by kernel_rfl)
  have h2 := h1.set 1 (.int .i64 s'.x1) (s' := ⟨s'.x0, s'.x1, s.x2, s.p0, s.p1, s.p2, s.p3, s.p4, s.p5⟩) (mode' := mode) (since' := since) (by kernel_rfl)
  have h3 := h2.set 2 (.int .i64 s'.x2) (s' := ⟨s'.x0, s'.x1, s'.x2, s.p0, s.p1, s.p2, s.p3, s.p4, s.p5⟩) (mode' := mode) (since' := since) (by kernel_rfl)
  have h4 := h3.set 3 (.int .i64 s'.p0) (s' := ⟨s'.x0, s'.x1, s'.x2, s'.p0, s.p1, s.p2, s.p3, s.p4, s.p5⟩) (mode' := mode) (since' := since) (by kernel_rfl)
  have h5 := h4.set 4 (.int .i64 s'.p1) (s' := ⟨s'.x0, s'.x1, s'.x2, s'.p0, s'.p1, s.p2, s.p3, s.p4, s.p5⟩) (mode' := mode) (since' := since) (by kernel_rfl)
  have h6 := h5.set 5 (.int .i64 s'.p2) (s' := ⟨s'.x0, s'.x1, s'.x2, s'.p0, s'.p1, s'.p2, s.p3, s.p4, s.p5⟩) (mode' := mode) (since' := since) (by kernel_rfl)
  have h7 := h6.set 6 (.int .i64 s'.p3) (s' := ⟨s'.x0, s'.x1, s'.x2, s'.p0, s'.p1, s'.p2, s'.p3, s.p4, s.p5⟩) (mode' := mode) (since' := since) (by kernel_rfl)
  have h8 := h7.set 7 (.int .i64 s'.p4) (s' := ⟨s'.x0, s'.x1, s'.x2, s'.p0, s'.p1, s'.p2, s'.p3, s'.p4, s.p5⟩) (mode' := mode) (since' := since) (by kernel_rfl)
  have h9 := h8.set 8 (.int .i64 s'.p5) (s' := s') (mode' := mode) (since' := since) (by kernel_rfl)
  exact h9
/-- The first samples put away. -/
theorem Chan.drop (h : Chan w0 W g f gr s c v mode since last run band noise rough count known l) : Chan w0 (W.setCell ⟨g, 41, none⟩ (.slice none 0 0)) g f gr s c (.slice none 0 0) mode since last run band noise rough count known [] :=
  ⟨(show (chanV s c f gr v mode since).setIfInBounds 41 (.slice none 0 0) = chanV s c f gr (.slice none 0 0) mode since by kernel_rfl) ▸ blk_set h.hg 41 _, blk_far h.hf h.fg _, h.hi.far h.gg _, Kd.R_nil _ _ _ _ _, h.g0, h.f0, h.hb.setCell (p := ⟨g, 41, none⟩) h.g0 _⟩
end
end Go.Proofs.YtpdahkgandaabaaGreatDoor.Ch
