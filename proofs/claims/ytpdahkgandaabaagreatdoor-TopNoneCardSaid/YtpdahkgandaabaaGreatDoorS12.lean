/- A part of the proof of the law TopNone of the top, where the package's tables hold what their initialisers lay. -/
import Derived.Test.YtpdahkgandaabaaGreatDoorS01
import Derived.Test.YtpdahkgandaabaaGreatDoorS02
import Derived.Test.YtpdahkgandaabaaGreatDoorS11
namespace Go.Proofs.YtpdahkgandaabaaGreatDoor.Ch
open Go.RowKit Go.Proofs.YtpdahkgandaabaaGreatDoorW.PrintWords Go.Proofs.YtpdahkgandaabaaGreatDoorW.PrintLast Go.Proofs.YtpdahkgandaabaaGreatDoorW.PrintMore Go.Proofs.YtpdahkgandaabaaGreatDoor.PTopNames Go.Proofs.YtpdahkgandaabaaGreatDoor.Al
set_option linter.unusedVariables false
set_option linter.unusedSimpArgs false
theorem good_is (w : World) (c : Int) (b : Bool) (h : good c = b) : Calls Tryz.prog 91 #[.int .i64 c] w fun e w' => e = .returned (.bool b) ∧ Below w.heap.size w w' := by
 rw [← h]
 exact good_any w c
set_option maxRecDepth 100000 in
set_option maxHeartbeats 4000000 in
theorem set_any (w0 w : World) (g : Nat) (band noise rough count : Int) (known : Bool) (c : Int) (hI : IsS93 w0 w g band noise rough count known) (hB : Below w0.heap.size w0 w) :
  Calls Tryz.prog 66 #[.pointer (some ⟨g, 0, none⟩), .int .i64 c] w fun e w' => e = .returned (.int .i64 (if good c then (if known then 7 else 0) else 2)) ∧
   IsS93 w0 w' g band noise rough (if good c && !known then c else count) (known || good c) ∧ Below w0.heap.size w0 w' ∧ KeepBut w w' g none := by
 have HI := am hI
 have HB := am hB
 clear hI hB
 cases hg : good c with
 | false =>
  go_enter Tryz.func66, Tryz.ntmps66
  go_wp2_with fail
  refine (good_is _ c false hg).mono ?_
  rintro e w1 ⟨rfl, hb⟩
  go_wp2_with fail
  go_ret
  exact ⟨rfl, by simpa using HI.out.below hb, below_step HB.out hb, KeepBut.of_below hb _ _⟩
 | true =>
  cases known with
  | true =>
   go_enter Tryz.func66, Tryz.ntmps66
   go_wp2_with fail
   refine (good_is _ c true hg).mono ?_
   rintro e w1 ⟨rfl, hb⟩
   have HI1 := am (HI.out.below hb)
   replace HB := am (below_step HB.out hb)
   have HK := am (KeepBut.of_below hb g none)
   have x4 := cellS93_4 HI1.out.1
   clear hb
   go_wp2_with fail
   go_ret
   exact ⟨rfl, by simpa using HI1.out, HB.out, HK.out⟩
  | false =>
   go_enter Tryz.func66, Tryz.ntmps66
   go_wp2_with fail
   refine (good_is _ c true hg).mono ?_
   rintro e w1 ⟨rfl, hb⟩
   have HI1 := am (HI.out.below hb)
   replace HB := am (below_step HB.out hb)
   have HK := am (KeepBut.of_below hb g none)
   have x3 := cellS93_3 HI1.out.1
   have x4 := cellS93_4 HI1.out.1
   have f3 := bfz HI1.out.1 3
   have f4 := bfz HI1.out.1 4
   clear hb
   go_wp2_with fail
   go_ret
   refine ⟨rfl, ?_, ?_, (HK.out.set_ 3 _).set_ 4 _⟩
   ·
    simpa using (HI1.out.set_3 c).set_4 true
   ·
    exact (HB.out.setCell (p := ⟨g, 3, none⟩) HI1.out.ge _).setCell (p := ⟨g, 4, none⟩) HI1.out.ge _
structure Chan (w0 W : World) (g f gr : Nat) (s : Gs) (c : Cf) (v : Value) (mode since last run band noise rough count : Int) (known : Bool) (l : List Int) : Prop where
 hg : W.heap[g]? = some (.cells (chanV s c f gr v mode since) 56 (0, 0))
 hf : W.heap[f]? = some (.cells (feedV last run c) 101 (0, 0))
 hi : IsS93 w0 W gr band noise rough count known
 hr : Kd.R (Kd.int .i64) 2 W w0.heap.size (fun _ => True) v l
 g0 : w0.heap.size ≤ g
 f0 : w0.heap.size ≤ f
 hb : Below w0.heap.size w0 W
section
variable {w0 W W' : World} {g f gr : Nat} {s s' : Gs} {c : Cf} {v v' : Value} {mode since mode' since' last run band noise rough count : Int} {known : Bool} {l l' : List Int}
theorem Chan.below (h : Chan w0 W g f gr s c v mode since last run band noise rough count known l) (hb : Below W.heap.size W W') : Chan w0 W' g f gr s c v mode since last run band noise rough count known l :=
 ⟨blk_below h.hg hb, blk_below h.hf hb, h.hi.below hb, Kd.R_below h.hr hb, h.g0, h.f0, below_step h.hb hb⟩
theorem Chan.drewN (h : Chan w0 W g f gr s c v mode since last run band noise rough count known l) (n : Nat) : Chan w0 (W.drewN n) g f gr s c v mode since last run band noise rough count known l :=
 h.below (pw_below_drewN (Below.refl _ _) n)
theorem Chan.alloc (h : Chan w0 W g f gr s c v mode since last run band noise rough count known l) (o : Obj) : Chan w0 (W.alloc o) g f gr s c v mode since last run band noise rough count known l :=
 h.below (below_alloc (Below.refl _ _) o)
theorem Chan.fg (h : Chan w0 W g f gr s c v mode since last run band noise rough count known l) : f ≠ g := blk_ne h.hf h.hg (by decide)
theorem Chan.gg (h : Chan w0 W g f gr s c v mode since last run band noise rough count known l) : gr ≠ g := h.hi.ne_blk h.hg (by decide)
theorem Chan.row (h : Chan w0 W g f gr s c v mode since last run band noise rough count known l) : some g ≠ v.ownBlock := Kd.R_ne h.hr h.hg (by decide)
theorem Chan.set (h : Chan w0 W g f gr s c v mode since last run band noise rough count known l) (i : Nat) (u : Value) (e : (chanV s c f gr v mode since).setIfInBounds i u = chanV s' c f gr v mode' since') :
  Chan w0 (W.setCell ⟨g, i, none⟩ u) g f gr s' c v mode' since' last run band noise rough count known l :=
 ⟨e ▸ blk_set h.hg i u, blk_far h.hf h.fg u, h.hi.far h.gg u, Kd.R_mono (Kd.R_far (p := ⟨g, i, none⟩) (Kd.R_tight rfl h.hr) (fun k hk e => h.row (by rw [← hk, e])) _) (fun _ _ => trivial), h.g0, h.f0, h.hb.setCell (p := ⟨g, i, none⟩) h.g0 _⟩
theorem Chan.grow (h : Chan w0 W g f gr s c v mode since last run band noise rough count known l) (hb : Below w0.heap.size w0 W') (hw : W.grownBy W' v.ownBlock) (hr : Kd.R (Kd.int .i64) 2 W' w0.heap.size (fun _ => True) v' l') :
  Chan w0 (W'.setCell ⟨g, 41, none⟩ v') g f gr s c v' mode since last run band noise rough count known l' := by
 have hg' : W'.heap[g]? = some (.cells (chanV s c f gr v mode since) 56 (0, 0)) := blk_grown h.hg hw h.row
 have hf' : W'.heap[f]? = some (.cells (feedV last run c) 101 (0, 0)) := blk_grown h.hf hw (Kd.R_ne h.hr h.hf (by decide))
 have hi' : IsS93 w0 W' gr band noise rough count known := h.hi.grown hw (h.hi.own_ne h.hr (by decide))
 have hne := Kd.R_ne hr hg' (by decide)
 exact ⟨(show (chanV s c f gr v mode since).setIfInBounds 41 v' = chanV s c f gr v' mode since by kernel_rfl) ▸ blk_set hg' 41 v', blk_far hf' h.fg v', hi'.far h.gg v', Kd.R_mono (Kd.R_far (p := ⟨g, 41, none⟩) (Kd.R_tight rfl hr) (fun k hk e => hne (by rw [← hk, e])) _) (fun _ _ => trivial), h.g0, h.f0, hb.setCell (p := ⟨g, 41, none⟩) h.g0 _⟩
theorem Chan.ground (h : Chan w0 W g f gr s c v mode since last run band noise rough count known l) {count' : Int} {known' : Bool} (hi : IsS93 w0 W' gr band noise rough count' known') (hb : Below w0.heap.size w0 W') (hk : KeepBut W W' gr none) :
  Chan w0 W' g f gr s c v mode since last run band noise rough count' known' l :=
 ⟨(hk.2 g (blk_lt h.hg) (Ne.symm h.gg) (by simp)).trans h.hg, (hk.2 f (blk_lt h.hf) (Ne.symm (h.hi.ne_blk h.hf (by decide))) (by simp)).trans h.hf, hi,
  Kd.R_mono (Kd.R_keep (Kd.R_tight rfl h.hr) hk (fun k hk e => h.hi.own_ne h.hr (by decide) (by rw [← hk, e]))) (fun _ _ => trivial), h.g0, h.f0, hb⟩
theorem Chan.fed (h : Chan w0 W g f gr s c v mode since last run band noise rough count known l) {last' run' : Int} (hf : W'.heap[f]? = some (.cells (feedV last' run' c) 101 (0, 0))) (hb : Below w0.heap.size w0 W') (hk : KeepBut W W' f none) :
  Chan w0 W' g f gr s c v mode since last' run' band noise rough count known l :=
 ⟨(hk.2 g (blk_lt h.hg) (Ne.symm h.fg) (by simp)).trans h.hg, hf, h.hi.kept (S := fun k => k = f) ⟨hk.1, fun i hi hn => hk.2 i hi hn (by simp)⟩ (h.hi.ne_blk h.hf (by decide)),
  Kd.R_mono (Kd.R_keep (Kd.R_tight rfl h.hr) hk (fun k hk e => (Kd.R_ne h.hr h.hf (by decide)) (by rw [← hk, e]))) (fun _ _ => trivial), h.g0, h.f0, hb⟩
theorem Chan.guess (h : Chan w0 W g f gr s c v mode since last run band noise rough count known l) (s' : Gs) :
  Chan w0 (((((((((W.setCell ⟨g, 0, none⟩ (.int .i64 s'.x0)).setCell ⟨g, 1, none⟩ (.int .i64 s'.x1)).setCell ⟨g, 2, none⟩ (.int .i64 s'.x2)).setCell ⟨g, 3, none⟩ (.int .i64 s'.p0)).setCell ⟨g, 4, none⟩ (.int .i64 s'.p1)).setCell ⟨g, 5, none⟩ (.int .i64 s'.p2)).setCell ⟨g, 6, none⟩ (.int .i64 s'.p3)).setCell ⟨g, 7, none⟩ (.int .i64 s'.p4)).setCell ⟨g, 8, none⟩ (.int .i64 s'.p5))
   g f gr s' c v mode since last run band noise rough count known l := by
 have h1 := h.set 0 (.int .i64 s'.x0) (s' := ⟨s'.x0, s.x1, s.x2, s.p0, s.p1, s.p2, s.p3, s.p4, s.p5⟩) (mode' := mode) (since' := since) (by kernel_rfl)
 have h2 := h1.set 1 (.int .i64 s'.x1) (s' := ⟨s'.x0, s'.x1, s.x2, s.p0, s.p1, s.p2, s.p3, s.p4, s.p5⟩) (mode' := mode) (since' := since) (by kernel_rfl)
 have h3 := h2.set 2 (.int .i64 s'.x2) (s' := ⟨s'.x0, s'.x1, s'.x2, s.p0, s.p1, s.p2, s.p3, s.p4, s.p5⟩) (mode' := mode) (since' := since) (by kernel_rfl)
 have h4 := h3.set 3 (.int .i64 s'.p0) (s' := ⟨s'.x0, s'.x1, s'.x2, s'.p0, s.p1, s.p2, s.p3, s.p4, s.p5⟩) (mode' := mode) (since' := since) (by kernel_rfl)
 have h5 := h4.set 4 (.int .i64 s'.p1) (s' := ⟨s'.x0, s'.x1, s'.x2, s'.p0, s'.p1, s.p2, s.p3, s.p4, s.p5⟩) (mode' := mode) (since' := since) (by kernel_rfl)
 have h6 := h5.set 5 (.int .i64 s'.p2) (s' := ⟨s'.x0, s'.x1, s'.x2, s'.p0, s'.p1, s'.p2, s.p3, s.p4, s.p5⟩) (mode' := mode) (since' := since) (by kernel_rfl)
 have h7 := h6.set 6 (.int .i64 s'.p3) (s' := ⟨s'.x0, s'.x1, s'.x2, s'.p0, s'.p1, s'.p2, s'.p3, s.p4, s.p5⟩) (mode' := mode) (since' := since) (by kernel_rfl)
 have h8 := h7.set 7 (.int .i64 s'.p4) (s' := ⟨s'.x0, s'.x1, s'.x2, s'.p0, s'.p1, s'.p2, s'.p3, s'.p4, s.p5⟩) (mode' := mode) (since' := since) (by kernel_rfl)
 have h9 := h8.set 8 (.int .i64 s'.p5) (s' := s') (mode' := mode) (since' := since) (by kernel_rfl)
 exact h9
theorem Chan.drop (h : Chan w0 W g f gr s c v mode since last run band noise rough count known l) : Chan w0 (W.setCell ⟨g, 41, none⟩ (.slice none 0 0)) g f gr s c (.slice none 0 0) mode since last run band noise rough count known [] :=
 ⟨(show (chanV s c f gr v mode since).setIfInBounds 41 (.slice none 0 0) = chanV s c f gr (.slice none 0 0) mode since by kernel_rfl) ▸ blk_set h.hg 41 _, blk_far h.hf h.fg _, h.hi.far h.gg _, Kd.R_nil _ _ _ _ _, h.g0, h.f0, h.hb.setCell (p := ⟨g, 41, none⟩) h.g0 _⟩
end
def OwT (w : World) (v v' : Value) : Prop := ∀ k, v'.ownBlock = some k → v.ownBlock = some k ∨ w.heap.size ≤ k
theorem OwT.of {w : World} {v v' : Value} (h : v'.ownBlock = v.ownBlock ∨ ∃ b, v'.ownBlock = some b ∧ w.heap.size ≤ b) : OwT w v v' := fun k hk => by
 rcases h with h | ⟨b, h, hb⟩
 ·
  exact .inl (by rw [← h]; exact hk)
 ·
  rw [h] at hk
  cases hk
  exact .inr hb
theorem info2 : (Tryz.prog.info? 2).map (fun i => (i.zero, i.size, i.bytes)) = some (some (.int .i64 0), 1, 8) := by kernel_rfl
set_option maxRecDepth 100000 in
set_option maxHeartbeats 4000000 in
theorem diag_any (w : World) (a b c : Int) : Calls Tryz.prog 15 #[.agg #[.int .i64 a, .int .i64 b, .int .i64 c]] w fun e w' => e = .returned (.agg #[.int .i64 a, .int .i64 0, .int .i64 0, .int .i64 b, .int .i64 0, .int .i64 c]) ∧ Below w.heap.size w w' := by
 go_enter Tryz.func15, Tryz.ntmps15
 go_wp2_with fail
 refine bodyPost_ret (results_cell_row rfl _ _ (w.heap.size + 1) 46 #[.int .i64 a, .int .i64 0, .int .i64 0, .int .i64 b, .int .i64 0, .int .i64 c] (0, 0) _ rfl (blocks2 w _ _ 26 46).2.1 Tryz.underlying46 rfl (by kernel_rfl)) rfl ?_
 exact ⟨rfl, below_alloc (below_alloc (Below.refl _ _) _) _⟩
set_option maxRecDepth 100000 in
set_option maxHeartbeats 4000000 in
theorem seek_more (w0 w : World) (g f gr : Nat) (s : Gs) (c : Cf) (v : Value) (mode since last run band noise rough count : Int) (known : Bool) (l : List Int) (n : Int)
  (h : Chan w0 w g f gr s c v mode since last run band noise rough count known l) (hl : l.length < 15) :
  Calls Tryz.prog 25 #[.pointer (some ⟨g, 0, none⟩), .int .i64 n] w fun e w' => ∃ v', e = .returned (.bool false) ∧ Chan w0 w' g f gr s c v' mode since last run band noise rough count known (l ++ [n]) ∧ Kept w w' (fun k => k = g ∨ k = gr ∨ v.ownBlock = some k) ∧ OwT w v v' := by
 have hle : l.length ≤ 15 := by omega
 obtain ⟨A, cc, rfl, hcc, _⟩ := Kd.R_reads h.hr
 have H := am h
 clear h
 have x41 := bcv H.out.hg 41 (.slice A l.length cc) rfl
 go_enter Tryz.func25, Tryz.ntmps25
 go_upto_region 2 with (first | ((with_reducible refine gate_builtin (b := .append) rfl ?_); refine Kd.R_append (Kd.int .i64) (w0 := w0) (W := w) w0.heap.size rfl (.tmp 13) (.tmp 15) 43 2 (.int .i64 0) 8 rfl Tryz.underlying43 info2 rfl (by decide) (by decide) (.slice A l.length cc) l n [.int .i64 n] (fun _ => True) (fun _ => False) rfl rfl rfl (fun _ hk => hk.elim) (fun _ _ => trivial) ?h1 ?h2 ?h3 ?h4 ?_; (case h1 => exact H.out.hr); (case h2 => exact H.out.hb); (case h3 => exact H.out.hb.size); (case h4 => omega); intro v1 w2 hr1 hb1 hg1 hat1; obtain ⟨A1, c1, rfl⟩ := Kd.R_slice hr1; have e4 : w2.cell? ⟨g, 41, none⟩ = some (.slice A l.length cc) := (blk_cell (blk_grown H.out.hg hg1 H.out.row) 41).trans rfl; have f4 : w2.frozen? ⟨g, 41, none⟩ = false := bfz (blk_grown H.out.hg hg1 H.out.row) 41))
 have H2 := am (H.out.grow hb1 hg1 hr1)
 have HO := am ((show Value.ownBlock (.slice A1 (l ++ [n]).length c1) = Value.ownBlock (.slice A l.length cc) ∨ _ from hat1))
 have HK := am ((Kept.of_grown hg1 (Kept.refl w (fun k => k = g ∨ k = gr ∨ (Value.slice A l.length cc).ownBlock = some k)) (fun k hk => .inl (.inr (.inr hk)))).setCell (p := ⟨g, 41, none⟩) (.inl (.inl rfl)) (.slice A1 (l ++ [n]).length c1))
 clear hr1 hb1 hg1 hat1 e4 f4 x41
 rw [show (l ++ [n]).length = l.length + 1 by simp] at H2 HO HK
 generalize w2.setCell ⟨g, 41, none⟩ (.slice A1 (l.length + 1) c1) = w3 at H2 HK ⊢
 obtain ⟨L, hL⟩ : ∃ L, L = l ++ [n] := ⟨_, rfl⟩
 have HLN := am (show l.length + 1 = L.length by rw [hL]; simp)
 rw [← hL] at H2
 rw [HLN.out] at H2 HO ⊢
 have hlen : L.length = l.length + 1 := HLN.out.symm
 have HL := am hL
 clear hL
 have x41 := bcv H2.out.hg 41 (.slice A1 L.length c1) rfl
 go_wp2_with fail
 go_ret
 refine ⟨.slice A1 L.length c1, rfl, ?_, HK.out, OwT.of HO.out⟩
 rw [← HL.out]
 exact H2.out
set_option maxRecDepth 100000 in
set_option maxHeartbeats 4000000 in
theorem seek_last (w0 w : World) (g f gr : Nat) (s : Gs) (c : Cf) (v : Value) (mode since last run band noise rough count : Int) (known : Bool) (l : List Int) (n : Int)
  (h : Chan w0 w g f gr s c v mode since last run band noise rough count known l) (hl : l.length = 15) (m em : Int) (hm : mean_Of.f 20 (l ++ [n]) = some (m, em)) (hT : Tab w0) :
  Calls Tryz.prog 25 #[.pointer (some ⟨g, 0, none⟩), .int .i64 n] w fun e w' => ∃ v', e = .returned (.bool true) ∧ Chan w0 w' g f gr ⟨if good m then alt m else 0, 0, 0, c.s0, 0, 0, c.s1, 0, c.s2⟩ c v' mode since last run band noise rough (if good m && !known then m else count) (known || good m) (l ++ [n]) ∧ Kept w w' (fun k => k = g ∨ k = gr ∨ v.ownBlock = some k) ∧ OwT w v v' := by
 have halt : ∀ w4, Tab w4 → _ := fun w4 hT => alt_any w4 m hT
 have hset := fun w7 hI hB => set_any w0 w7 gr band noise rough count known m hI hB
 generalize (if good m = true then alt m else 0) = z at halt ⊢
 generalize (if good m = true then (0 : Int) else 2) = ez at halt
 generalize (if (good m && !known) = true then m else count) = cn2 at hset ⊢
 generalize (known || good m) = kn2 at hset ⊢
 generalize (if good m = true then (if known = true then (7 : Int) else 0) else 2) = es at hset
 have HT := am hT
 have HM := am hm
 have HAL := am halt
 have HSE := am hset
 clear hT hm halt hset
 have hle : l.length ≤ 15 := by omega
 have hge : 15 ≤ l.length := by omega
 clear hl
 obtain ⟨A, cc, rfl, hcc, _⟩ := Kd.R_reads h.hr
 have H := am h
 clear h
 have x41 := bcv H.out.hg 41 (.slice A l.length cc) rfl
 go_enter Tryz.func25, Tryz.ntmps25
 go_upto_region 2 with (first | ((with_reducible refine gate_builtin (b := .append) rfl ?_); refine Kd.R_append (Kd.int .i64) (w0 := w0) (W := w) w0.heap.size rfl (.tmp 13) (.tmp 15) 43 2 (.int .i64 0) 8 rfl Tryz.underlying43 info2 rfl (by decide) (by decide) (.slice A l.length cc) l n [.int .i64 n] (fun _ => True) (fun _ => False) rfl rfl rfl (fun _ hk => hk.elim) (fun _ _ => trivial) ?h1 ?h2 ?h3 ?h4 ?_; (case h1 => exact H.out.hr); (case h2 => exact H.out.hb); (case h3 => exact H.out.hb.size); (case h4 => omega); intro v1 w2 hr1 hb1 hg1 hat1; obtain ⟨A1, c1, rfl⟩ := Kd.R_slice hr1; have e4 : w2.cell? ⟨g, 41, none⟩ = some (.slice A l.length cc) := (blk_cell (blk_grown H.out.hg hg1 H.out.row) 41).trans rfl; have f4 : w2.frozen? ⟨g, 41, none⟩ = false := bfz (blk_grown H.out.hg hg1 H.out.row) 41))
 have H2 := am (H.out.grow hb1 hg1 hr1)
 have HO := am ((show Value.ownBlock (.slice A1 (l ++ [n]).length c1) = Value.ownBlock (.slice A l.length cc) ∨ _ from hat1))
 have HK := am ((Kept.of_grown hg1 (Kept.refl w (fun k => k = g ∨ k = gr ∨ (Value.slice A l.length cc).ownBlock = some k)) (fun k hk => .inl (.inr (.inr hk)))).setCell (p := ⟨g, 41, none⟩) (.inl (.inl rfl)) (.slice A1 (l ++ [n]).length c1))
 clear hr1 hb1 hg1 hat1 e4 f4 x41
 rw [show (l ++ [n]).length = l.length + 1 by simp] at H2 HO HK
 generalize w2.setCell ⟨g, 41, none⟩ (.slice A1 (l.length + 1) c1) = w3 at H2 HK ⊢
 obtain ⟨L, hL⟩ : ∃ L, L = l ++ [n] := ⟨_, rfl⟩
 have HLN := am (show l.length + 1 = L.length by rw [hL]; simp)
 rw [← hL] at H2
 rw [HLN.out] at H2 HO ⊢
 have hlen : L.length = l.length + 1 := HLN.out.symm
 have HL := am hL
 clear hL
 have x41 := bcv H2.out.hg 41 (.slice A1 L.length c1) rfl
 have h1 : decide ((L.length : Int) < 16) = false := decide_eq_false (by omega)
 clear hlen
 rw [← HL.out] at HM
 go_wp2_with fail
 refine (mean_Of.calls 20 A1 c1 L m em w3 (Kd.R_reads' H2.out.hr).2.2 (Kd.R_reads' H2.out.hr).2.1 HM.out).mono ?_
 rintro e w4 ⟨rfl, hd⟩
 replace H2 := am (H2.out.below hd.below)
 replace HK := am (HK.out.below hd.below)
 clear hd HM x41
 go_wp2_with fail
 refine (HAL.out w4 (HT.out.below H2.out.hb)).mono ?_
 rintro e w5 ⟨rfl, hb⟩
 replace H2 := am (H2.out.below hb)
 replace HK := am (HK.out.below hb)
 clear hb
 have x17 := bcv H2.out.hg 17 (.int .i64 c.s0) rfl
 have x18 := bcv H2.out.hg 18 (.int .i64 c.s1) rfl
 have x19 := bcv H2.out.hg 19 (.int .i64 c.s2) rfl
 go_wp2_with fail
 refine (diag_any w5 _ _ _).mono ?_
 rintro e w6 ⟨rfl, hb⟩
 replace H2 := am (H2.out.below hb)
 replace HK := am (HK.out.below hb)
 clear hb x17 x18 x19
 have y0 := bcv H2.out.hg 0 (.int .i64 s.x0) rfl
 have f0 := bfz H2.out.hg 0
 have y1 := bcv H2.out.hg 1 (.int .i64 s.x1) rfl
 have f1 := bfz H2.out.hg 1
 have y2 := bcv H2.out.hg 2 (.int .i64 s.x2) rfl
 have f2 := bfz H2.out.hg 2
 have y3 := bcv H2.out.hg 3 (.int .i64 s.p0) rfl
 have f3 := bfz H2.out.hg 3
 have y4 := bcv H2.out.hg 4 (.int .i64 s.p1) rfl
 have f4 := bfz H2.out.hg 4
 have y5 := bcv H2.out.hg 5 (.int .i64 s.p2) rfl
 have f5 := bfz H2.out.hg 5
 have y6 := bcv H2.out.hg 6 (.int .i64 s.p3) rfl
 have f6 := bfz H2.out.hg 6
 have y7 := bcv H2.out.hg 7 (.int .i64 s.p4) rfl
 have f7 := bfz H2.out.hg 7
 have y8 := bcv H2.out.hg 8 (.int .i64 s.p5) rfl
 have f8 := bfz H2.out.hg 8
 go_upto_region 7 with fail
 have q := H2.out.guess ⟨z, 0, 0, c.s0, 0, 0, c.s1, 0, c.s2⟩
 have qk := (((((((((HK.out.setCell (p := ⟨g, 0, none⟩) (.inl (.inl rfl)) (.int .i64 z)).setCell (p := ⟨g, 1, none⟩) (.inl (.inl rfl)) (.int .i64 0)).setCell (p := ⟨g, 2, none⟩) (.inl (.inl rfl)) (.int .i64 0)).setCell (p := ⟨g, 3, none⟩) (.inl (.inl rfl)) (.int .i64 c.s0)).setCell (p := ⟨g, 4, none⟩) (.inl (.inl rfl)) (.int .i64 0)).setCell (p := ⟨g, 5, none⟩) (.inl (.inl rfl)) (.int .i64 0)).setCell (p := ⟨g, 6, none⟩) (.inl (.inl rfl)) (.int .i64 c.s1)).setCell (p := ⟨g, 7, none⟩) (.inl (.inl rfl)) (.int .i64 0)).setCell (p := ⟨g, 8, none⟩) (.inl (.inl rfl)) (.int .i64 c.s2))
 clear H2 HK y0 f0 y1 f1 y2 f2 y3 f3 y4 f4 y5 f5 y6 f6 y7 f7 y8 f8
 generalize hw7 : (((((((((w6.setCell ⟨g, 0, none⟩ (.int .i64 z)).setCell ⟨g, 1, none⟩ (.int .i64 0)).setCell ⟨g, 2, none⟩ (.int .i64 0)).setCell ⟨g, 3, none⟩ (.int .i64 c.s0)).setCell ⟨g, 4, none⟩ (.int .i64 0)).setCell ⟨g, 5, none⟩ (.int .i64 0)).setCell ⟨g, 6, none⟩ (.int .i64 c.s1)).setCell ⟨g, 7, none⟩ (.int .i64 0)).setCell ⟨g, 8, none⟩ (.int .i64 c.s2)) = w7 at q qk ⊢
 clear hw7
 have HK := am qk
 clear qk
 have H2 := am q
 clear q
 have x42 := bcv H2.out.hg 42 (.pointer (some ⟨gr, 0, none⟩)) rfl
 go_wp2_with fail
 refine (HSE.out w7 H2.out.hi H2.out.hb).mono ?_
 rintro e w8 ⟨rfl, hI, hB, hk⟩
 have H3 := am (H2.out.ground hI hB hk)
 replace HK := am (HK.out.of_keep hk (.inl (.inr (.inl rfl))))
 clear hI hB hk H2
 go_wp2_with fail
 go_ret
 refine ⟨.slice A1 L.length c1, rfl, ?_, HK.out, OwT.of HO.out⟩
 rw [← HL.out]
 exact H3.out
end Go.Proofs.YtpdahkgandaabaaGreatDoor.Ch
