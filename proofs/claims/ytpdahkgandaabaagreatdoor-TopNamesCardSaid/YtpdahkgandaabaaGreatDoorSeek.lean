/- A first sample taken in (layer 20): the walks of a diagonal and of seek. -/
import Derived.Test.YtpdahkgandaabaaGreatDoorChan
import Derived.Test.YtpdahkgandaabaaGreatDoorBase
namespace Go.Proofs.YtpdahkgandaabaaGreatDoor.Ch
open Go.RowKit Go.Proofs.YtpdahkgandaabaaGreatDoorW.PrintWords Go.Proofs.YtpdahkgandaabaaGreatDoorW.PrintLast Go.Proofs.YtpdahkgandaabaaGreatDoorW.PrintMore Go.Proofs.YtpdahkgandaabaaGreatDoor.PTopNames Go.Proofs.YtpdahkgandaabaaGreatDoor.Al
set_option linter.unusedVariables false
set_option linter.unusedSimpArgs false

theorem alt_yes (w : World) (c : Int) (hT : Tab w) (h : good c = true) :
    Calls Tryz.prog 65 #[.int .i64 c] w fun e w' => e = .returned (.tuple #[.int .i64 (alt c), .int .i64 0]) ∧ Below w.heap.size w w' := by
  have := alt_any w c hT
  simp only [h, if_true] at this
  exact this
theorem set_new (w0 w : World) (g : Nat) (band noise rough count : Int) (c : Int) (hI : IsS93 w0 w g band noise rough count false) (hB : Below w0.heap.size w0 w) (h : good c = true) :
    Calls Tryz.prog 66 #[.pointer (some ⟨g, 0, none⟩), .int .i64 c] w fun e w' => e = .returned (.int .i64 0) ∧ IsS93 w0 w' g band noise rough c true ∧ Below w0.heap.size w0 w' ∧ KeepBut w w' g none := by
  have := set_any w0 w g band noise rough count false c hI hB
  simp only [h, if_true, Bool.false_eq_true, if_false, Bool.not_false, Bool.and_self, Bool.or_true] at this
  exact this
theorem info2 : (Tryz.prog.info? 2).map (fun i => (i.zero, i.size, i.bytes)) = some (some (.int .i64 0), 1, 8) := by kernel_rfl
set_option maxRecDepth 100000 in
set_option maxHeartbeats 4000000 in
theorem diag_any (w : World) (a b c : Int) : Calls Tryz.prog 15 #[.agg #[.int .i64 a, .int .i64 b, .int .i64 c]] w fun e w' => e = .returned (.agg #[.int .i64 a, .int .i64 0, .int .i64 0, .int .i64 b, .int .i64 0, .int .i64 c]) ∧ Below w.heap.size w w' := by
  go_enter Tryz.func15, Tryz.ntmps15
  go_wp2_with fail
  refine bodyPost_ret (results_cell_row rfl _ _ (w.heap.size + 1) 46 #[.int .i64 a, .int .i64 0, .int .i64 0, .int .i64 b, .int .i64 0, .int .i64 c] (0, 0) _ rfl (blocks2 w _ _ 26 46).2.1 Tryz.underlying46 rfl (by kernel_rfl)) rfl ?_
  exact ⟨rfl, below_alloc (below_alloc (Below.refl _ _) _) _⟩
set_option maxRecDepth 100000 in
set_option maxHeartbeats 4000000 in
theorem seek_more (w0 w : World) (g f gr : Nat) (s : Gs) (c : Cf) (v : Value) (mode since last run band noise rough count : Int) (known : Bool) (l : List Int) (n : Int)
    (h : Chan w0 w g f gr s c v mode since last run band noise rough count known l) (hl : l.length < 15) :
    Calls Tryz.prog 25 #[.pointer (some ⟨g, 0, none⟩), .int .i64 n] w fun e w' => ∃ v', e = .returned (.bool false) ∧ Chan w0 w' g f gr s c v' mode since last run band noise rough count known (l ++ [n]) ∧ Kept w w' (fun k => k = g ∨ k = gr ∨ v.ownBlock = some k) := by
  have hle : l.length ≤ 15 := by omega
  obtain ⟨A, cc, rfl, hcc, _⟩ := Kd.R_reads h.hr
  have H := Aside0.mk h
  clear h
  have x41 : w.cell? ⟨g, 41, none⟩ = some (.slice A l.length cc) := (blk_cell H.out.hg 41).trans rfl
  go_enter Tryz.func25, Tryz.ntmps25
  go_upto_region 2 with (first | ((with_reducible refine gate_builtin (b := .append) rfl ?_); refine Kd.R_append (Kd.int .i64) (w0 := w0) (W := w) w0.heap.size rfl (.tmp 13) (.tmp 15) 43 2 (.int .i64 0) 8 rfl Tryz.underlying43 info2 rfl (by decide) (by decide) (.slice A l.length cc) l n [.int .i64 n] (fun _ => True) (fun _ => False) rfl rfl rfl (fun _ hk => hk.elim) (fun _ _ => trivial) ?h1 ?h2 ?h3 ?h4 ?_; (case h1 => exact H.out.hr); (case h2 => exact H.out.hb); (case h3 => exact H.out.hb.size); (case h4 => omega); intro v1 w2 hr1 hb1 hg1 hat1; obtain ⟨A1, c1, rfl⟩ := Kd.R_slice hr1; have e4 : w2.cell? ⟨g, 41, none⟩ = some (.slice A l.length cc) := (blk_cell (blk_grown H.out.hg hg1 H.out.row) 41).trans rfl; have f4 : w2.frozen? ⟨g, 41, none⟩ = false := blk_frozen (blk_grown H.out.hg hg1 H.out.row) 41))
  have H2 := Aside0.mk (H.out.grow hb1 hg1 hr1)
  have HO := Aside0.mk ((show Value.ownBlock (.slice A1 (l ++ [n]).length c1) = Value.ownBlock (.slice A l.length cc) ∨ _ from hat1))
  have HK := Aside0.mk ((Kept.of_grown hg1 (Kept.refl w (fun k => k = g ∨ k = gr ∨ (Value.slice A l.length cc).ownBlock = some k)) (fun k hk => .inl (.inr (.inr hk)))).setCell (p := ⟨g, 41, none⟩) (.inl (.inl rfl)) (.slice A1 (l ++ [n]).length c1))
  clear hr1 hb1 hg1 hat1 e4 f4 x41
  rw [show (l ++ [n]).length = l.length + 1 by simp] at H2 HO HK
  generalize w2.setCell ⟨g, 41, none⟩ (.slice A1 (l.length + 1) c1) = w3 at H2 HK ⊢
  obtain ⟨L, hL⟩ : ∃ L, L = l ++ [n] := ⟨_, rfl⟩
  have HLN := Aside0.mk (show l.length + 1 = L.length by rw [hL]; simp)
  rw [← hL] at H2
  rw [HLN.out] at H2 HO ⊢
  have hlen : L.length = l.length + 1 := HLN.out.symm
  have HL := Aside0.mk hL
  clear hL
  have x41 : w3.cell? ⟨g, 41, none⟩ = some (.slice A1 L.length c1) := (blk_cell H2.out.hg 41).trans rfl
  go_wp2_with fail
  go_ret
  refine ⟨.slice A1 L.length c1, rfl, ?_, HK.out⟩
  rw [← HL.out]
  exact H2.out
set_option maxRecDepth 100000 in
set_option maxHeartbeats 4000000 in
theorem seek_last (w0 w : World) (g f gr : Nat) (s : Gs) (c : Cf) (v : Value) (mode since last run band noise rough count : Int) (known : Bool) (l : List Int) (n : Int)
    (h : Chan w0 w g f gr s c v mode since last run band noise rough count known l) (hl : l.length = 15) (m : Int) (hm : mean_Of.f 20 (l ++ [n]) = some (m, 0)) (hgm : good m = true) (hT : Tab w0) (hkn : known = false) :
    Calls Tryz.prog 25 #[.pointer (some ⟨g, 0, none⟩), .int .i64 n] w fun e w' => ∃ v', e = .returned (.bool true) ∧ Chan w0 w' g f gr ⟨alt m, 0, 0, c.s0, 0, 0, c.s1, 0, c.s2⟩ c v' mode since last run band noise rough m true (l ++ [n]) ∧ Kept w w' (fun k => k = g ∨ k = gr ∨ v.ownBlock = some k) := by
  subst hkn
  have HT := Aside0.mk hT
  have HM := Aside0.mk hm
  have HGM := Aside0.mk hgm
  clear hT hm hgm
  have hle : l.length ≤ 15 := by omega
  have hge : 15 ≤ l.length := by omega
  clear hl
  obtain ⟨A, cc, rfl, hcc, _⟩ := Kd.R_reads h.hr
  have H := Aside0.mk h
  clear h
  have x41 : w.cell? ⟨g, 41, none⟩ = some (.slice A l.length cc) := (blk_cell H.out.hg 41).trans rfl
  go_enter Tryz.func25, Tryz.ntmps25
  go_upto_region 2 with (first | ((with_reducible refine gate_builtin (b := .append) rfl ?_); refine Kd.R_append (Kd.int .i64) (w0 := w0) (W := w) w0.heap.size rfl (.tmp 13) (.tmp 15) 43 2 (.int .i64 0) 8 rfl Tryz.underlying43 info2 rfl (by decide) (by decide) (.slice A l.length cc) l n [.int .i64 n] (fun _ => True) (fun _ => False) rfl rfl rfl (fun _ hk => hk.elim) (fun _ _ => trivial) ?h1 ?h2 ?h3 ?h4 ?_; (case h1 => exact H.out.hr); (case h2 => exact H.out.hb); (case h3 => exact H.out.hb.size); (case h4 => omega); intro v1 w2 hr1 hb1 hg1 hat1; obtain ⟨A1, c1, rfl⟩ := Kd.R_slice hr1; have e4 : w2.cell? ⟨g, 41, none⟩ = some (.slice A l.length cc) := (blk_cell (blk_grown H.out.hg hg1 H.out.row) 41).trans rfl; have f4 : w2.frozen? ⟨g, 41, none⟩ = false := blk_frozen (blk_grown H.out.hg hg1 H.out.row) 41))
  have H2 := Aside0.mk (H.out.grow hb1 hg1 hr1)
  have HO := Aside0.mk ((show Value.ownBlock (.slice A1 (l ++ [n]).length c1) = Value.ownBlock (.slice A l.length cc) ∨ _ from hat1))
  have HK := Aside0.mk ((Kept.of_grown hg1 (Kept.refl w (fun k => k = g ∨ k = gr ∨ (Value.slice A l.length cc).ownBlock = some k)) (fun k hk => .inl (.inr (.inr hk)))).setCell (p := ⟨g, 41, none⟩) (.inl (.inl rfl)) (.slice A1 (l ++ [n]).length c1))
  clear hr1 hb1 hg1 hat1 e4 f4 x41
  rw [show (l ++ [n]).length = l.length + 1 by simp] at H2 HO HK
  generalize w2.setCell ⟨g, 41, none⟩ (.slice A1 (l.length + 1) c1) = w3 at H2 HK ⊢
  obtain ⟨L, hL⟩ : ∃ L, L = l ++ [n] := ⟨_, rfl⟩
  have HLN := Aside0.mk (show l.length + 1 = L.length by rw [hL]; simp)
  rw [← hL] at H2
  rw [HLN.out] at H2 HO ⊢
  have hlen : L.length = l.length + 1 := HLN.out.symm
  have HL := Aside0.mk hL
  clear hL
  have x41 : w3.cell? ⟨g, 41, none⟩ = some (.slice A1 L.length c1) := (blk_cell H2.out.hg 41).trans rfl
  have h1 : decide ((L.length : Int) < 16) = false := decide_eq_false (by omega)
  clear hlen
  rw [← HL.out] at HM
  go_wp2_with fail
  refine (mean_Of.calls 20 A1 c1 L m 0 w3 (Kd.R_reads' H2.out.hr).2.2 (Kd.R_reads' H2.out.hr).2.1 HM.out).mono ?_
  rintro e w4 ⟨rfl, hd⟩
  replace H2 := Aside0.mk (H2.out.below hd.below)
  replace HK := Aside0.mk (HK.out.below hd.below)
  clear hd HM x41
  go_wp2_with fail
  refine (alt_yes w4 m (HT.out.below H2.out.hb) HGM.out).mono ?_
  rintro e w5 ⟨rfl, hb⟩
  replace H2 := Aside0.mk (H2.out.below hb)
  replace HK := Aside0.mk (HK.out.below hb)
  clear hb
  have x17 : w5.cell? ⟨g, 17, none⟩ = some (.int .i64 c.s0) := (blk_cell H2.out.hg 17).trans rfl
  have x18 : w5.cell? ⟨g, 18, none⟩ = some (.int .i64 c.s1) := (blk_cell H2.out.hg 18).trans rfl
  have x19 : w5.cell? ⟨g, 19, none⟩ = some (.int .i64 c.s2) := (blk_cell H2.out.hg 19).trans rfl
  obtain ⟨z, hz⟩ : ∃ z, z = alt m := ⟨_, rfl⟩
  rw [← hz]
  have HZ := Aside0.mk hz
  clear hz
  go_wp2_with fail
  refine (diag_any w5 _ _ _).mono ?_
  rintro e w6 ⟨rfl, hb⟩
  replace H2 := Aside0.mk (H2.out.below hb)
  replace HK := Aside0.mk (HK.out.below hb)
  clear hb x17 x18 x19
  have y0 : w6.cell? ⟨g, 0, none⟩ = some (.int .i64 s.x0) := (blk_cell H2.out.hg 0).trans rfl
  have f0 := blk_frozen H2.out.hg 0
  have y1 : w6.cell? ⟨g, 1, none⟩ = some (.int .i64 s.x1) := (blk_cell H2.out.hg 1).trans rfl
  have f1 := blk_frozen H2.out.hg 1
  have y2 : w6.cell? ⟨g, 2, none⟩ = some (.int .i64 s.x2) := (blk_cell H2.out.hg 2).trans rfl
  have f2 := blk_frozen H2.out.hg 2
  have y3 : w6.cell? ⟨g, 3, none⟩ = some (.int .i64 s.p0) := (blk_cell H2.out.hg 3).trans rfl
  have f3 := blk_frozen H2.out.hg 3
  have y4 : w6.cell? ⟨g, 4, none⟩ = some (.int .i64 s.p1) := (blk_cell H2.out.hg 4).trans rfl
  have f4 := blk_frozen H2.out.hg 4
  have y5 : w6.cell? ⟨g, 5, none⟩ = some (.int .i64 s.p2) := (blk_cell H2.out.hg 5).trans rfl
  have f5 := blk_frozen H2.out.hg 5
  have y6 : w6.cell? ⟨g, 6, none⟩ = some (.int .i64 s.p3) := (blk_cell H2.out.hg 6).trans rfl
  have f6 := blk_frozen H2.out.hg 6
  have y7 : w6.cell? ⟨g, 7, none⟩ = some (.int .i64 s.p4) := (blk_cell H2.out.hg 7).trans rfl
  have f7 := blk_frozen H2.out.hg 7
  have y8 : w6.cell? ⟨g, 8, none⟩ = some (.int .i64 s.p5) := (blk_cell H2.out.hg 8).trans rfl
  have f8 := blk_frozen H2.out.hg 8
  go_upto_region 7 with fail
  have q := H2.out.guess ⟨z, 0, 0, c.s0, 0, 0, c.s1, 0, c.s2⟩
  have qk := (((((((((HK.out.setCell (p := ⟨g, 0, none⟩) (.inl (.inl rfl)) (.int .i64 z)).setCell (p := ⟨g, 1, none⟩) (.inl (.inl rfl)) (.int .i64 0)).setCell (p := ⟨g, 2, none⟩) (.inl (.inl rfl)) (.int .i64 0)).setCell (p := ⟨g, 3, none⟩) (.inl (.inl rfl)) (.int .i64 c.s0)).setCell (p := ⟨g, 4, none⟩) (.inl (.inl rfl)) (.int .i64 0)).setCell (p := ⟨g, 5, none⟩) (.inl (.inl rfl)) (.int .i64 0)).setCell (p := ⟨g, 6, none⟩) (.inl (.inl rfl)) (.int .i64 c.s1)).setCell (p := ⟨g, 7, none⟩) (.inl (.inl rfl)) (.int .i64 0)).setCell (p := ⟨g, 8, none⟩) (.inl (.inl rfl)) (.int .i64 c.s2))
  clear H2 HK y0 f0 y1 f1 y2 f2 y3 f3 y4 f4 y5 f5 y6 f6 y7 f7 y8 f8
  generalize hw7 : (((((((((w6.setCell ⟨g, 0, none⟩ (.int .i64 z)).setCell ⟨g, 1, none⟩ (.int .i64 0)).setCell ⟨g, 2, none⟩ (.int .i64 0)).setCell ⟨g, 3, none⟩ (.int .i64 c.s0)).setCell ⟨g, 4, none⟩ (.int .i64 0)).setCell ⟨g, 5, none⟩ (.int .i64 0)).setCell ⟨g, 6, none⟩ (.int .i64 c.s1)).setCell ⟨g, 7, none⟩ (.int .i64 0)).setCell ⟨g, 8, none⟩ (.int .i64 c.s2)) = w7 at q qk ⊢
  clear hw7
  have HK := Aside0.mk qk
  clear qk
  have H2 := Aside0.mk q
  clear q
  have x42 : w7.cell? ⟨g, 42, none⟩ = some (.pointer (some ⟨gr, 0, none⟩)) := (blk_cell H2.out.hg 42).trans rfl
  go_wp2_with fail
  refine (set_new w0 w7 gr _ _ _ _ m H2.out.hi H2.out.hb HGM.out).mono ?_
  rintro e w8 ⟨rfl, hI, hB, hk⟩
  have H3 := Aside0.mk (H2.out.ground hI hB hk)
  replace HK := Aside0.mk (HK.out.of_keep hk (.inl (.inr (.inl rfl))))
  clear hI hB hk H2
  go_wp2_with fail
  go_ret
  refine ⟨.slice A1 L.length c1, rfl, ?_, HK.out⟩
  rw [← HL.out, ← HZ.out]
  exact H3.out
end Go.Proofs.YtpdahkgandaabaaGreatDoor.Ch
