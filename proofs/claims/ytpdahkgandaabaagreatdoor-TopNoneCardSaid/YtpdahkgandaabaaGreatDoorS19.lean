/- A part of the proof of the law TopNone of the top, where the package's tables hold what their initialisers lay. -/
import Derived.Test.YtpdahkgandaabaaGreatDoorS01
import Derived.Test.YtpdahkgandaabaaGreatDoorS09
import Derived.Test.YtpdahkgandaabaaGreatDoorS10
import Derived.Test.YtpdahkgandaabaaGreatDoorS12
import Derived.Test.YtpdahkgandaabaaGreatDoorS15
import Derived.Test.YtpdahkgandaabaaGreatDoorS18
namespace Go.Proofs.YtpdahkgandaabaaGreatDoor.Ch
open Go.RowKit Go.Proofs.YtpdahkgandaabaaGreatDoorW.PrintWords Go.Proofs.YtpdahkgandaabaaGreatDoorW.PrintLast Go.Proofs.YtpdahkgandaabaaGreatDoorW.PrintMore Go.Proofs.YtpdahkgandaabaaGreatDoor.PTopNames Go.Proofs.YtpdahkgandaabaaGreatDoor.Al
set_option linter.unusedVariables false
set_option linter.unusedSimpArgs false
theorem cutA_ {K : Act → World → Prop} (C : Act → World → Prop) {R : Prop} (h1 : (∀ a w, C a w → K a w) → R) (h2 : ∀ a w, C a w → K a w) : R := h1 h2
section
variable {w0 W W' : World} {g f gr : Nat} {s : Gs} {c : Cf} {v : Value} {mode since last run band noise rough count : Int} {known : Bool} {l : List Int}
theorem Chan.hw (h : Chan w0 W g f gr s c v mode since last run band noise rough count known l) : w0.heap.size ≤ W.heap.size := h.hb.size
theorem Chan.but (h : Chan w0 W g f gr s c v mode since last run band noise rough count known l) {b : Nat} {cs : Array Value} {t : TypeId} (hb : W.heap[b]? = some (.cells cs t (0, 0))) (ht : t ≠ 56 ∧ t ≠ 101 ∧ t ≠ 93 ∧ t ≠ 2) (hk : Kept W W' (fun k => k = b)) (hB : Below w0.heap.size w0 W') :
  Chan w0 W' g f gr s c v mode since last run band noise rough count known l :=
 have h2 : some b ≠ v.ownBlock := Kd.R_ne h.hr hb (fun e => ht.2.2.2 (by simpa using e.symm))
 ⟨blk_kept h.hg hk (show ¬ g = b from blk_ne h.hg hb (by intro e; exact ht.1 e.symm)), blk_kept h.hf hk (show ¬ f = b from blk_ne h.hf hb (by intro e; exact ht.2.1 e.symm)), h.hi.kept (S := fun k => k = b) hk (h.hi.ne_blk hb (by intro e; exact ht.2.2.1 (by simpa using e))),
  Kd.R_mono (Kd.R_kept (Kd.R_tight rfl h.hr) hk (fun k hk e => h2 (by rw [← hk, e]))) (fun _ _ => trivial), h.g0, h.f0, hB⟩
end
theorem add_ex (c : Cf) (hd : Bool) : ∃ a0 a1 a2, ∀ (w : World) (f : Nat) (last run : Int), w.heap[f]? = some (.cells (feedV last run c) 101 (0, 0)) → Calls Tryz.prog 69 #[.pointer (some ⟨f, 0, none⟩), .bool hd] w fun e w' => e = .returned (.agg #[.int .i64 a0, .int .i64 a1, .int .i64 a2]) ∧ Below w.heap.size w w' := by
 cases hd with
 | true => exact ⟨c.l0, c.l1, c.l2, fun w f last run h => add_any w f c last run true h⟩
 | false => exact ⟨c.q0, c.q1, c.q2, fun w f last run h => add_any w f c last run false h⟩
theorem lit65 (T : Array Value) (h : T.size = 65) : ∃ S : Nat → Value, T = #[S 0, S 1, S 2, S 3, S 4, S 5, S 6, S 7, S 8, S 9, S 10, S 11, S 12, S 13, S 14, S 15, S 16, S 17, S 18, S 19, S 20, S 21, S 22, S 23, S 24, S 25, S 26, S 27, S 28, S 29, S 30, S 31, S 32, S 33, S 34, S 35, S 36, S 37, S 38, S 39, S 40, S 41, S 42, S 43, S 44, S 45, S 46, S 47, S 48, S 49, S 50, S 51, S 52, S 53, S 54, S 55, S 56, S 57, S 58, S 59, S 60, S 61, S 62, S 63, S 64] := by
 refine ⟨fun k => T.getD k undef, ?_⟩
 refine (show T = ((List.range 65).map (fun k => T.getD k undef)).toArray from ?_).trans rfl
 apply Array.ext
 ·
  simp [h]
 ·
  intro i h1 h2
  simp [h1]
theorem mlit3 (T : Array Value) (v0 v2 v6 : Value) (h : T.size = 65) (e0 : T.getD 0 undef = v0) (e2 : T.getD 2 undef = v2) (e6 : T.getD 6 undef = v6) : ∃ S : Nat → Value, T = #[v0, S 1, v2, S 3, S 4, S 5, v6, S 7, S 8, S 9, S 10, S 11, S 12, S 13, S 14, S 15, S 16, S 17, S 18, S 19, S 20, S 21, S 22, S 23, S 24, S 25, S 26, S 27, S 28, S 29, S 30, S 31, S 32, S 33, S 34, S 35, S 36, S 37, S 38, S 39, S 40, S 41, S 42, S 43, S 44, S 45, S 46, S 47, S 48, S 49, S 50, S 51, S 52, S 53, S 54, S 55, S 56, S 57, S 58, S 59, S 60, S 61, S 62, S 63, S 64] := by
 obtain ⟨S, rfl⟩ := lit65 T h
 replace e0 : S 0 = v0 := e0
 replace e2 : S 2 = v2 := e2
 replace e6 : S 6 = v6 := e6
 exact ⟨S, by rw [← e0, ← e2, ← e6]⟩
theorem mlit6 (T : Array Value) (v0 v6 v7 v8 : Value) (h : T.size = 65) (e0 : T.getD 0 undef = v0) (e6 : T.getD 6 undef = v6) (e7 : T.getD 7 undef = v7) (e8 : T.getD 8 undef = v8) : ∃ S : Nat → Value, T = #[v0, S 1, S 2, S 3, S 4, S 5, v6, v7, v8, S 9, S 10, S 11, S 12, S 13, S 14, S 15, S 16, S 17, S 18, S 19, S 20, S 21, S 22, S 23, S 24, S 25, S 26, S 27, S 28, S 29, S 30, S 31, S 32, S 33, S 34, S 35, S 36, S 37, S 38, S 39, S 40, S 41, S 42, S 43, S 44, S 45, S 46, S 47, S 48, S 49, S 50, S 51, S 52, S 53, S 54, S 55, S 56, S 57, S 58, S 59, S 60, S 61, S 62, S 63, S 64] := by
 obtain ⟨S, rfl⟩ := lit65 T h
 replace e0 : S 0 = v0 := e0
 replace e6 : S 6 = v6 := e6
 replace e7 : S 7 = v7 := e7
 replace e8 : S 8 = v8 := e8
 exact ⟨S, by rw [← e0, ← e6, ← e7, ← e8]⟩
theorem mlit9 (T : Array Value) (v0 v9 : Value) (h : T.size = 65) (e0 : T.getD 0 undef = v0) (e9 : T.getD 9 undef = v9) : ∃ S : Nat → Value, T = #[v0, S 1, S 2, S 3, S 4, S 5, S 6, S 7, S 8, v9, S 10, S 11, S 12, S 13, S 14, S 15, S 16, S 17, S 18, S 19, S 20, S 21, S 22, S 23, S 24, S 25, S 26, S 27, S 28, S 29, S 30, S 31, S 32, S 33, S 34, S 35, S 36, S 37, S 38, S 39, S 40, S 41, S 42, S 43, S 44, S 45, S 46, S 47, S 48, S 49, S 50, S 51, S 52, S 53, S 54, S 55, S 56, S 57, S 58, S 59, S 60, S 61, S 62, S 63, S 64] := by
 obtain ⟨S, rfl⟩ := lit65 T h
 replace e0 : S 0 = v0 := e0
 replace e9 : S 9 = v9 := e9
 exact ⟨S, by rw [← e0, ← e9]⟩
set_option maxRecDepth 100000 in
set_option maxHeartbeats 4000000 in
theorem move_ex (c : Cf) (s : Gs) (th : Int) (hd : Bool) : ∃ s' : Gs, ∀ (w0 w : World) (g f gr : Nat) (v : Value) (mode since last run band noise rough count : Int) (known : Bool) (l : List Int), G w0 → Chan w0 w g f gr s c v mode since last run band noise rough count known l →
  Calls Tryz.prog 26 #[.pointer (some ⟨g, 0, none⟩), .int .i64 th, .bool hd] w fun e w' => e = .returned (.tuple #[]) ∧ Chan w0 w' g f gr s' c v mode since last run band noise rough count known l ∧ Kept w w' (fun k => k = g) := by
 obtain ⟨r0, r1, r2, e1, hon⟩ := on_tells s.x0 s.x1 s.x2 th
 obtain ⟨a0, a1, a2, hadd⟩ := add_ex c hd
 obtain ⟨q0, q1, q2, q3, q4, q5, e2, hsp⟩ := spon_tells s.p0 s.p1 s.p2 s.p3 s.p4 s.p5 a0 a1 a2
 obtain ⟨X0, X1, X2, hX1, hX2⟩ : ∃ X0 X1 X2 : Int, (e1 = 0 → X0 = r0 ∧ X1 = r1 ∧ X2 = r2) ∧ (e1 ≠ 0 → X0 = s.x0 ∧ X1 = s.x1 ∧ X2 = s.x2) := by
  by_cases h : e1 = 0
  ·
   exact ⟨r0, r1, r2, fun _ => ⟨rfl, rfl, rfl⟩, fun h' => absurd h h'⟩
  ·
   exact ⟨s.x0, s.x1, s.x2, fun h' => absurd h' h, fun _ => ⟨rfl, rfl, rfl⟩⟩
 obtain ⟨P0, P1, P2, P3, P4, P5, hP1, hP2⟩ : ∃ P0 P1 P2 P3 P4 P5 : Int, (e2 = 0 → P0 = q0 ∧ P1 = q1 ∧ P2 = q2 ∧ P3 = q3 ∧ P4 = q4 ∧ P5 = q5) ∧ (e2 ≠ 0 → P0 = s.p0 ∧ P1 = s.p1 ∧ P2 = s.p2 ∧ P3 = s.p3 ∧ P4 = s.p4 ∧ P5 = s.p5) := by
  by_cases h : e2 = 0
  ·
   exact ⟨q0, q1, q2, q3, q4, q5, fun _ => ⟨rfl, rfl, rfl, rfl, rfl, rfl⟩, fun h' => absurd h h'⟩
  ·
   exact ⟨s.p0, s.p1, s.p2, s.p3, s.p4, s.p5, fun h' => absurd h' h, fun _ => ⟨rfl, rfl, rfl, rfl, rfl, rfl⟩⟩
 obtain ⟨k, hk⟩ := kept_ex c X0 X1 X2 P0 P1 P2 P3 P4 P5
 obtain ⟨s', hs1, hs2⟩ : ∃ s' : Gs, (e2 = 0 → s' = k) ∧ (e2 ≠ 0 → s' = ⟨k.x0, k.x1, k.x2, s.p0, s.p1, s.p2, s.p3, s.p4, s.p5⟩) := by
  by_cases h : e2 = 0
  ·
   exact ⟨k, fun _ => rfl, fun h' => absurd h h'⟩
  ·
   exact ⟨_, fun h' => absurd h' h, fun _ => rfl⟩
 refine ⟨s', fun w0 w g f gr v mode since last run band noise rough count known l hG h => ?_⟩
 have hw0 := h.hb.size
 have H := am h
 have HK := am (Kept.refl w (fun k => k = g))
 have HON := am hon
 have HADD := am hadd
 have HSP := am hsp
 have HKE := am hk
 have HX1 := am hX1
 have HX2 := am hX2
 have HP1 := am hP1
 have HP2 := am hP2
 have HS1 := am hs1
 have HS2 := am hs2
 have HG := am hG
 clear hon hadd hsp hk hX1 hX2 hP1 hP2 hs1 hs2 hG h
 unfold vec sym at *
 go_enter Tryz.func26, Tryz.ntmps26
 have yg0 := bcv H.out.hg 0 (.int .i64 s.x0) rfl
 have yg1 := bcv H.out.hg 1 (.int .i64 s.x1) rfl
 have yg2 := bcv H.out.hg 2 (.int .i64 s.x2) rfl
 go_wp2_with fail
 refine (HON.out w (HG.out.below H.out.hb)).mono ?_
 rintro e w1 ⟨rfl, hb⟩
 replace H := am (H.out.below hb)
 replace HK := am (HK.out.below hb)
 clear hb
 clear yg0 yg1 yg2
 go_upto_region 1 with fail
 have l6 : w.heap.size ≤ w1.heap.size := HK.out.1
 replace H := am (H.out.alloc (.cells #[.int .i64 r0, .int .i64 r1, .int .i64 r2] 26))
 replace HK := am (HK.out.alloc (.cells #[.int .i64 r0, .int .i64 r1, .int .i64 r2] 26))
 have H6 := am (blk_new w1 (.cells #[.int .i64 r0, .int .i64 r1, .int .i64 r2] 26))
 generalize w1.alloc (.cells #[.int .i64 r0, .int .i64 r1, .int .i64 r2] 26) = w2 at H HK H6 ⊢
 generalize w1.heap.size = b6 at H6 l6 ⊢
 rename_i KA hKA KB hKB
 have HKA := am hKA
 clear hKA
 apply cutA_ (K := KA) (fun a W => a.tmps.size = 65 ∧ a.defers = [] ∧ a.tmps.getD 0 undef = .pointer (some ⟨g, 0, none⟩) ∧ a.tmps.getD 2 undef = .bool hd ∧ a.tmps.getD 6 undef = .pointer (some ⟨b6, 0, none⟩) ∧ Aside0 (Chan w0 W g f gr s c v mode since last run band noise rough count known l) ∧ Aside0 (Kept w W (fun k => k = g)) ∧ Aside0 (W.heap[b6]? = some (.cells #[.int .i64 X0, .int .i64 X1, .int .i64 X2] 26 (0, 0))))
 ·
  intro join
  have JN := am join
  clear join
  by_cases h0 : e1 = 0
  ·
   have q1 : (e1 == 0) = true := by simp [h0]
   have q2 : decide (e1 = 0) = true := decide_eq_true h0
   go_wp2_with fail
   obtain ⟨hx0, hx1, hx2⟩ := HX1.out h0
   replace H6 := am (show w2.heap[b6]? = some (Obj.cells #[.int .i64 X0, .int .i64 X1, .int .i64 X2] 26 (0, 0)) by rw [hx0, hx1, hx2]; exact H6.out)
   refine JN.out _ _ ?_
   exact ⟨rfl, rfl, rfl, rfl, rfl, H, HK, H6⟩
  ·
   skip
   have q1' : (e1 == 0) = false := by simp [h0]
   have q2' : decide (e1 = 0) = false := decide_eq_false h0
   have yg0 := bcv H.out.hg 0 (.int .i64 s.x0) rfl
   have yg1 := bcv H.out.hg 1 (.int .i64 s.x1) rfl
   have yg2 := bcv H.out.hg 2 (.int .i64 s.x2) rfl
   have y60 := bcv H6.out 0 (.int .i64 r0) rfl
   have f60 := bfz H6.out 0
   have y61 := bcv H6.out 1 (.int .i64 r1) rfl
   have f61 := bfz H6.out 1
   have y62 := bcv H6.out 2 (.int .i64 r2) rfl
   have f62 := bfz H6.out 2
   go_wp2_with fail
   clear yg0 yg1 yg2
   clear y60 y61 y62 f60 f61 f62
   have qs0 := blk_set H6.out 0 (.int .i64 s.x0)
   have qs1 := blk_set qs0 1 (.int .i64 s.x1)
   have qs2 := blk_set qs1 2 (.int .i64 s.x2)
   have qa := qs2.trans (show _ = some (Obj.cells #[.int .i64 s.x0, .int .i64 s.x1, .int .i64 s.x2] 26 (0, 0)) from rfl)
   have qk := (((Kept.refl w2 (fun k => k = b6)).setCell (p := ⟨b6, 0, none⟩) (.inl rfl) (.int .i64 s.x0)).setCell (p := ⟨b6, 1, none⟩) (.inl rfl) (.int .i64 s.x1)).setCell (p := ⟨b6, 2, none⟩) (.inl rfl) (.int .i64 s.x2)
   have qb := ((H.out.hb.setCell (p := ⟨b6, 0, none⟩) (Nat.le_trans hw0 l6) (.int .i64 s.x0)).setCell (p := ⟨b6, 1, none⟩) (Nat.le_trans hw0 l6) (.int .i64 s.x1)).setCell (p := ⟨b6, 2, none⟩) (Nat.le_trans hw0 l6) (.int .i64 s.x2)
   have qh := H.out.but H6.out (by decide) qk qb
   have qK := HK.out.then_ qk (fun k hk => .inr (by rw [hk]; exact l6))
   clear H HK H6 qs0 qs1 qs2 qk qb
   generalize ((w2.setCell ⟨b6, 0, none⟩ (.int .i64 s.x0)).setCell ⟨b6, 1, none⟩ (.int .i64 s.x1)).setCell ⟨b6, 2, none⟩ (.int .i64 s.x2) = w3 at qa qh qK ⊢
   have H := am qh
   have HK := am qK
   have H6 := am qa
   clear qa qh qK
   obtain ⟨hx0, hx1, hx2⟩ := HX2.out h0
   replace H6 := am (show w3.heap[b6]? = some (Obj.cells #[.int .i64 X0, .int .i64 X1, .int .i64 X2] 26 (0, 0)) by rw [hx0, hx1, hx2]; exact H6.out)
   refine JN.out _ _ ?_
   exact ⟨rfl, rfl, rfl, rfl, rfl, H, HK, H6⟩
 ·
  clear H HK H6
  rintro a u0 ⟨hsz, hd, e0, e2, e6, H, HK, H6⟩
  obtain ⟨T, ds⟩ := a
  obtain rfl : ds = [] := hd
  obtain ⟨S, rfl⟩ := mlit3 T _ _ _ hsz e0 e2 e6
  clear hsz e0 e2 e6
  refine HKA.out _ _ ?_
  clear HKA
  go_upto_region 3 with fail
  apply cut1_ (fun b8 W => w.heap.size ≤ b8 ∧ b6 ≠ b8 ∧ Aside0 (Chan w0 W g f gr s c v mode since last run band noise rough count known l) ∧ Aside0 (Kept w W (fun k => k = g)) ∧ Aside0 (W.heap[b6]? = some (.cells #[.int .i64 X0, .int .i64 X1, .int .i64 X2] 26 (0, 0))) ∧ Aside0 (W.heap[b8]? = some (.cells #[.int .i64 q0, .int .i64 q1, .int .i64 q2, .int .i64 q3, .int .i64 q4, .int .i64 q5] 46 (0, 0))))
  ·
   intro join
   refine start_ (n := 18) (S := fun w' => w'.heap[g]? = some (.cells (chanV s c f gr v mode since) 56 (0, 0))) (ds := []) (flg 18 0) (by kernel_rfl) rfl rfl H.out.hg (fun hHeld => ?_)
   replace H := am (H.out.drewN 1)
   replace HK := am (HK.out.drew)
   replace H6 := am (blk_drew H6.out)
   change Aside0 (Chan w0 u0.drew _ _ _ _ _ _ _ _ _ _ _ _ _ _ _ _) at H
   generalize u0.drew = u1 at H HK H6 hHeld ⊢
   refine pure_ (i := 0) (N := (some 28)) (v := ?_) (a' := ?_) (flg 18 1) rfl rfl (by kernel_rfl) (fun _ _ _ h => h) (Or.inl ⟨by rfl, ?_⟩) ?_ ?_
   rotate_left
   ·
    intro w'
    go_simp
    with_reducible rfl
   rotate_left
   ·
    simp only [pw]
    rfl
   refine pure_ (i := 1) (N := (some 29)) (v := ?_) (a' := ?_) (flg 18 3) rfl rfl (by kernel_rfl) (fun _ _ _ h => h) (Or.inl ⟨by rfl, ?_⟩) ?_ ?_
   rotate_left
   ·
    intro w'
    go_simp
    with_reducible rfl
   rotate_left
   ·
    simp only [pw]
    rfl
   refine pure_ (i := 2) (N := (some 30)) (v := ?_) (a' := ?_) (flg 18 7) rfl rfl (by kernel_rfl) (fun _ _ _ h => h) (Or.inl ⟨by rfl, ?_⟩) ?_ ?_
   rotate_left
   ·
    intro w'
    go_simp
    with_reducible rfl
   rotate_left
   ·
    simp only [pw]
    rfl
   refine pure_ (i := 3) (N := (some 31)) (v := ?_) (a' := ?_) (flg 18 15) rfl rfl (by kernel_rfl) (fun _ _ _ h => h) (Or.inl ⟨by rfl, ?_⟩) ?_ ?_
   rotate_left
   ·
    intro w'
    go_simp
    with_reducible rfl
   rotate_left
   ·
    simp only [pw]
    rfl
   refine take_ (i := 4) (N := (some 32)) (v := ?_) (a' := ?_) (flg 18 31) rfl rfl (by kernel_rfl) (fun _ _ _ h => h) (Or.inl ⟨by rfl, ?_⟩) hHeld ?_ ?_
   rotate_left
   ·
    rintro w' s0
    have x0 := bcv s0 3 (.int .i64 s.p0) rfl
    have x1 := bcv s0 4 (.int .i64 s.p1) rfl
    have x2 := bcv s0 5 (.int .i64 s.p2) rfl
    have x3 := bcv s0 6 (.int .i64 s.p3) rfl
    have x4 := bcv s0 7 (.int .i64 s.p4) rfl
    have x5 := bcv s0 8 (.int .i64 s.p5) rfl
    go_simp
    with_reducible rfl
   rotate_left
   ·
    simp only [pw]
    rfl
   refine pure_ (i := 5) (N := (some 33)) (v := ?_) (a' := ?_) (flg 18 63) rfl rfl (by kernel_rfl) (fun _ _ _ h => h) (Or.inl ⟨by rfl, ?_⟩) ?_ ?_
   rotate_left
   ·
    intro w'
    go_simp
    with_reducible rfl
   rotate_left
   ·
    simp only [pw]
    rfl
   refine pure_ (i := 6) (N := (some 34)) (v := ?_) (a' := ?_) (flg 18 127) rfl rfl (by kernel_rfl) (fun _ _ _ h => h) (Or.inl ⟨by rfl, ?_⟩) ?_ ?_
   rotate_left
   ·
    intro w'
    go_simp
    with_reducible rfl
   rotate_left
   ·
    simp only [pw]
    rfl
   refine pure_ (i := 7) (N := (some 35)) (v := ?_) (a' := ?_) (flg 18 255) rfl rfl (by kernel_rfl) (fun _ _ _ h => h) (Or.inl ⟨by rfl, ?_⟩) ?_ ?_
   rotate_left
   ·
    intro w'
    go_simp
    with_reducible rfl
   rotate_left
   ·
    simp only [pw]
    rfl
   refine take_ (i := 8) (N := (some 36)) (v := ?_) (a' := ?_) (flg 18 511) rfl rfl (by kernel_rfl) (fun _ _ _ h => h) (Or.inl ⟨by rfl, ?_⟩) hHeld ?_ ?_
   rotate_left
   ·
    rintro w' s0
    have x0 := bcv s0 40 (.pointer (some ⟨f, 0, none⟩)) rfl
    go_simp
    with_reducible rfl
   rotate_left
   ·
    simp only [pw]
    rfl
   refine pure_ (i := 9) (N := (some 37)) (v := ?_) (a' := ?_) (flg 18 1023) rfl rfl (by kernel_rfl) (fun _ _ _ h => h) (Or.inl ⟨by rfl, ?_⟩) ?_ ?_
   rotate_left
   ·
    intro w'
    go_simp
    with_reducible rfl
   rotate_left
   ·
    simp only [pw]
    rfl
   refine two_ (i := 10) (j := 15) (Ni := (some 38)) (Nj := (some 8)) (flg 18 2047) (flg 18 33791) rfl rfl rfl rfl (by kernel_rfl) (by decide) (by decide) (fun K hK => ?_) (fun K hK => ?_)
   ·
    skip
    refine goes_ Tryz.func69 (by kernel_rfl) rfl #[.pointer (some ⟨f, 0, none⟩), .bool hd] (by rfl) rfl rfl (by (try simp only [List.map_toArray, List.map_cons, List.map_nil]); first | done | rfl) ?_
    refine (HADD.out u1 f last run H.out.hf).mono ?_
    rintro e u2 ⟨rfl, hb⟩
    replace H := am (H.out.below hb)
    replace HK := am (HK.out.below hb)
    replace H6 := am (blk_below H6.out hb)
    clear hb hHeld
    refine ⟨_, rfl, ?_⟩
    refine hK.out _ _ H.out.hg (fun hHeld => ?_)
    clear hK K
    refine norm_ (a' := ?_) ?_ ?_
    rotate_left
    ·
     show Act.put _ (some 38) _ = _
     simp only [pw]
     rfl
    refine two_ (i := 11) (j := 15) (Ni := (some 39)) (Nj := (some 8)) (flg 18 4095) (flg 18 34815) rfl rfl rfl rfl (by kernel_rfl) (by decide) (by decide) (fun K hK => ?_) (fun K hK => ?_)
    ·
     skip
     refine goes_ Tryz.func68 (by kernel_rfl) rfl #[.agg #[.int .i64 s.p0, .int .i64 s.p1, .int .i64 s.p2, .int .i64 s.p3, .int .i64 s.p4, .int .i64 s.p5], .agg #[.int .i64 a0, .int .i64 a1, .int .i64 a2]] (by rfl) rfl rfl (by (try simp only [List.map_toArray, List.map_cons, List.map_nil]); first | done | rfl) ?_
     refine (HSP.out u2 (HG.out.below H.out.hb)).mono ?_
     rintro e u3 ⟨rfl, hb⟩
     replace H := am (H.out.below hb)
     replace HK := am (HK.out.below hb)
     replace H6 := am (blk_below H6.out hb)
     clear hb hHeld
     refine ⟨_, rfl, ?_⟩
     refine hK.out _ _ H.out.hg (fun hHeld => ?_)
     clear hK K
     refine norm_ (a' := ?_) ?_ ?_
     rotate_left
     ·
      show Act.put _ (some 39) _ = _
      simp only [pw]
      rfl
     refine pure_ (i := 12) (N := (some 27)) (v := ?_) (a' := ?_) (flg 18 8191) rfl rfl (by kernel_rfl) (fun _ _ _ h => h) (Or.inl ⟨by rfl, ?_⟩) ?_ ?_
     rotate_left
     ·
      intro w'
      go_simp
      with_reducible rfl
     rotate_left
     ·
      simp only [pw]
      rfl
     refine pure_ (i := 13) (N := (some 40)) (v := ?_) (a' := ?_) (flg 18 16383) rfl rfl (by kernel_rfl) (fun _ _ _ h => h) (Or.inl ⟨by rfl, ?_⟩) ?_ ?_
     rotate_left
     ·
      intro w'
      go_simp
      with_reducible rfl
     rotate_left
     ·
      simp only [pw]
      rfl
     refine pure_ (i := 14) (N := (some 41)) (v := ?_) (a' := ?_) (flg 18 32767) rfl rfl (by kernel_rfl) (fun _ _ _ h => h) (Or.inl ⟨by rfl, ?_⟩) ?_ ?_
     rotate_left
     ·
      intro w'
      go_simp
      with_reducible rfl
     rotate_left
     ·
      simp only [pw]
      rfl
     refine one_ (i := 15) (N := (some 8)) (flg 18 65535) rfl rfl (by kernel_rfl) (by decide) (fun K hK => ?_)
     refine event_step (v := .pointer (some ⟨u3.heap.size, 0, none⟩)) (w1 := u3.alloc (.cells #[.int .i64 0, .int .i64 0, .int .i64 0, .int .i64 0, .int .i64 0, .int .i64 0] 46)) (by rfl) (by first | (go_simp; done) | (go_simp; rfl)) ?_
     have n6_8 : b6 ≠ u3.heap.size := Nat.ne_of_lt (blk_lt H6.out)
     have l8 : w.heap.size ≤ u3.heap.size := HK.out.1
     replace H := am (H.out.alloc (.cells #[.int .i64 0, .int .i64 0, .int .i64 0, .int .i64 0, .int .i64 0, .int .i64 0] 46))
     replace HK := am (HK.out.alloc (.cells #[.int .i64 0, .int .i64 0, .int .i64 0, .int .i64 0, .int .i64 0, .int .i64 0] 46))
     replace H6 := am (blk_alloc H6.out (.cells #[.int .i64 0, .int .i64 0, .int .i64 0, .int .i64 0, .int .i64 0, .int .i64 0] 46))
     have H8 := am (blk_new u3 (.cells #[.int .i64 0, .int .i64 0, .int .i64 0, .int .i64 0, .int .i64 0, .int .i64 0] 46))
     generalize u3.alloc (.cells #[.int .i64 0, .int .i64 0, .int .i64 0, .int .i64 0, .int .i64 0, .int .i64 0] 46) = u4 at H HK H8 H6 ⊢
     generalize u3.heap.size = b8 at H8 l8 n6_8 ⊢
     clear hHeld
     refine hK.out _ _ H.out.hg (fun hHeld => ?_)
     clear hK K
     refine norm_ (a' := ?_) ?_ ?_
     rotate_left
     ·
      show Act.put _ (some 8) _ = _
      simp only [pw]
      rfl
     have y80 := bcv H8.out 0 (.int .i64 0) rfl
     have f80 := bfz H8.out 0
     have y81 := bcv H8.out 1 (.int .i64 0) rfl
     have f81 := bfz H8.out 1
     have y82 := bcv H8.out 2 (.int .i64 0) rfl
     have f82 := bfz H8.out 2
     have y83 := bcv H8.out 3 (.int .i64 0) rfl
     have f83 := bfz H8.out 3
     have y84 := bcv H8.out 4 (.int .i64 0) rfl
     have f84 := bfz H8.out 4
     have y85 := bcv H8.out 5 (.int .i64 0) rfl
     have f85 := bfz H8.out 5
     refine one_ (i := 16) (N := none) (flg 18 131071) rfl rfl (by kernel_rfl) (by decide) (fun K hK => ?_)
     refine skip_ (w1 := (((((u4.setCell ⟨b8, 0, none⟩ (.int .i64 q0)).setCell ⟨b8, 1, none⟩ (.int .i64 q1)).setCell ⟨b8, 2, none⟩ (.int .i64 q2)).setCell ⟨b8, 3, none⟩ (.int .i64 q3)).setCell ⟨b8, 4, none⟩ (.int .i64 q4)).setCell ⟨b8, 5, none⟩ (.int .i64 q5)) (by rfl) rfl (by first | (go_simp; done) | (go_simp; rfl)) ?_
     clear hHeld
     clear y80 y81 y82 y83 y84 y85 f80 f81 f82 f83 f84 f85
     have qs0 := blk_set H8.out 0 (.int .i64 q0)
     have qs1 := blk_set qs0 1 (.int .i64 q1)
     have qs2 := blk_set qs1 2 (.int .i64 q2)
     have qs3 := blk_set qs2 3 (.int .i64 q3)
     have qs4 := blk_set qs3 4 (.int .i64 q4)
     have qs5 := blk_set qs4 5 (.int .i64 q5)
     have qa := qs5.trans (show _ = some (Obj.cells #[.int .i64 q0, .int .i64 q1, .int .i64 q2, .int .i64 q3, .int .i64 q4, .int .i64 q5] 46 (0, 0)) from rfl)
     have qk := ((((((Kept.refl u4 (fun k => k = b8)).setCell (p := ⟨b8, 0, none⟩) (.inl rfl) (.int .i64 q0)).setCell (p := ⟨b8, 1, none⟩) (.inl rfl) (.int .i64 q1)).setCell (p := ⟨b8, 2, none⟩) (.inl rfl) (.int .i64 q2)).setCell (p := ⟨b8, 3, none⟩) (.inl rfl) (.int .i64 q3)).setCell (p := ⟨b8, 4, none⟩) (.inl rfl) (.int .i64 q4)).setCell (p := ⟨b8, 5, none⟩) (.inl rfl) (.int .i64 q5)
     have qb := (((((H.out.hb.setCell (p := ⟨b8, 0, none⟩) (Nat.le_trans hw0 l8) (.int .i64 q0)).setCell (p := ⟨b8, 1, none⟩) (Nat.le_trans hw0 l8) (.int .i64 q1)).setCell (p := ⟨b8, 2, none⟩) (Nat.le_trans hw0 l8) (.int .i64 q2)).setCell (p := ⟨b8, 3, none⟩) (Nat.le_trans hw0 l8) (.int .i64 q3)).setCell (p := ⟨b8, 4, none⟩) (Nat.le_trans hw0 l8) (.int .i64 q4)).setCell (p := ⟨b8, 5, none⟩) (Nat.le_trans hw0 l8) (.int .i64 q5)
     have qh := H.out.but H8.out (by decide) qk qb
     have qo6 := blk_kept H6.out qk (show b6 ≠ b8 from n6_8)
     have qK := HK.out.then_ qk (fun k hk => .inr (by rw [hk]; exact l8))
     clear H HK H8 H6 qs0 qs1 qs2 qs3 qs4 qs5 qk qb
     generalize (((((u4.setCell ⟨b8, 0, none⟩ (.int .i64 q0)).setCell ⟨b8, 1, none⟩ (.int .i64 q1)).setCell ⟨b8, 2, none⟩ (.int .i64 q2)).setCell ⟨b8, 3, none⟩ (.int .i64 q3)).setCell ⟨b8, 4, none⟩ (.int .i64 q4)).setCell ⟨b8, 5, none⟩ (.int .i64 q5) = u5 at qa qh qK qo6 ⊢
     have H := am qh
     have HK := am qK
     have H8 := am qa
     have H6 := am qo6
     clear qa qh qK qo6
     refine hK.out _ _ H.out.hg (fun hHeld => ?_)
     clear hK K
     refine pure_ (i := 17) (N := (some 7)) (v := ?_) (a' := ?_) (flg 18 262143) rfl rfl (by kernel_rfl) (fun _ _ _ h => h) (Or.inl ⟨by rfl, ?_⟩) ?_ ?_
     rotate_left
     ·
      intro w'
      go_simp
      with_reducible rfl
     rotate_left
     ·
      simp only [pw]
      rfl
     refine done_ (by kernel_rfl) ?_
     exact join b8 u5 ⟨l8, n6_8, H, HK, H6, H8⟩
    ·
     skip
     refine event_step (v := .pointer (some ⟨u2.heap.size, 0, none⟩)) (w1 := u2.alloc (.cells #[.int .i64 0, .int .i64 0, .int .i64 0, .int .i64 0, .int .i64 0, .int .i64 0] 46)) (by rfl) (by first | (go_simp; done) | (go_simp; rfl)) ?_
     have n6_8 : b6 ≠ u2.heap.size := Nat.ne_of_lt (blk_lt H6.out)
     have l8 : w.heap.size ≤ u2.heap.size := HK.out.1
     replace H := am (H.out.alloc (.cells #[.int .i64 0, .int .i64 0, .int .i64 0, .int .i64 0, .int .i64 0, .int .i64 0] 46))
     replace HK := am (HK.out.alloc (.cells #[.int .i64 0, .int .i64 0, .int .i64 0, .int .i64 0, .int .i64 0, .int .i64 0] 46))
     replace H6 := am (blk_alloc H6.out (.cells #[.int .i64 0, .int .i64 0, .int .i64 0, .int .i64 0, .int .i64 0, .int .i64 0] 46))
     have H8 := am (blk_new u2 (.cells #[.int .i64 0, .int .i64 0, .int .i64 0, .int .i64 0, .int .i64 0, .int .i64 0] 46))
     generalize u2.alloc (.cells #[.int .i64 0, .int .i64 0, .int .i64 0, .int .i64 0, .int .i64 0, .int .i64 0] 46) = u3 at H HK H8 H6 ⊢
     generalize u2.heap.size = b8 at H8 l8 n6_8 ⊢
     clear hHeld
     refine hK.out _ _ H.out.hg (fun hHeld => ?_)
     clear hK K
     refine norm_ (a' := ?_) ?_ ?_
     rotate_left
     ·
      show Act.put _ (some 8) _ = _
      simp only [pw]
      rfl
     refine one_ (i := 11) (N := (some 39)) (flg 18 36863) rfl rfl (by kernel_rfl) (by decide) (fun K hK => ?_)
     refine goes_ Tryz.func68 (by kernel_rfl) rfl #[.agg #[.int .i64 s.p0, .int .i64 s.p1, .int .i64 s.p2, .int .i64 s.p3, .int .i64 s.p4, .int .i64 s.p5], .agg #[.int .i64 a0, .int .i64 a1, .int .i64 a2]] (by rfl) rfl rfl (by (try simp only [List.map_toArray, List.map_cons, List.map_nil]); first | done | rfl) ?_
     refine (HSP.out u3 (HG.out.below H.out.hb)).mono ?_
     rintro e u4 ⟨rfl, hb⟩
     replace H := am (H.out.below hb)
     replace HK := am (HK.out.below hb)
     replace H6 := am (blk_below H6.out hb)
     replace H8 := am (blk_below H8.out hb)
     clear hb hHeld
     refine ⟨_, rfl, ?_⟩
     refine hK.out _ _ H.out.hg (fun hHeld => ?_)
     clear hK K
     refine norm_ (a' := ?_) ?_ ?_
     rotate_left
     ·
      show Act.put _ (some 39) _ = _
      simp only [pw]
      rfl
     refine pure_ (i := 12) (N := (some 27)) (v := ?_) (a' := ?_) (flg 18 40959) rfl rfl (by kernel_rfl) (fun _ _ _ h => h) (Or.inl ⟨by rfl, ?_⟩) ?_ ?_
     rotate_left
     ·
      intro w'
      go_simp
      with_reducible rfl
     rotate_left
     ·
      simp only [pw]
      rfl
     refine pure_ (i := 13) (N := (some 40)) (v := ?_) (a' := ?_) (flg 18 49151) rfl rfl (by kernel_rfl) (fun _ _ _ h => h) (Or.inl ⟨by rfl, ?_⟩) ?_ ?_
     rotate_left
     ·
      intro w'
      go_simp
      with_reducible rfl
     rotate_left
     ·
      simp only [pw]
      rfl
     refine pure_ (i := 14) (N := (some 41)) (v := ?_) (a' := ?_) (flg 18 65535) rfl rfl (by kernel_rfl) (fun _ _ _ h => h) (Or.inl ⟨by rfl, ?_⟩) ?_ ?_
     rotate_left
     ·
      intro w'
      go_simp
      with_reducible rfl
     rotate_left
     ·
      simp only [pw]
      rfl
     have y80 := bcv H8.out 0 (.int .i64 0) rfl
     have f80 := bfz H8.out 0
     have y81 := bcv H8.out 1 (.int .i64 0) rfl
     have f81 := bfz H8.out 1
     have y82 := bcv H8.out 2 (.int .i64 0) rfl
     have f82 := bfz H8.out 2
     have y83 := bcv H8.out 3 (.int .i64 0) rfl
     have f83 := bfz H8.out 3
     have y84 := bcv H8.out 4 (.int .i64 0) rfl
     have f84 := bfz H8.out 4
     have y85 := bcv H8.out 5 (.int .i64 0) rfl
     have f85 := bfz H8.out 5
     refine one_ (i := 16) (N := none) (flg 18 131071) rfl rfl (by kernel_rfl) (by decide) (fun K hK => ?_)
     refine skip_ (w1 := (((((u4.setCell ⟨b8, 0, none⟩ (.int .i64 q0)).setCell ⟨b8, 1, none⟩ (.int .i64 q1)).setCell ⟨b8, 2, none⟩ (.int .i64 q2)).setCell ⟨b8, 3, none⟩ (.int .i64 q3)).setCell ⟨b8, 4, none⟩ (.int .i64 q4)).setCell ⟨b8, 5, none⟩ (.int .i64 q5)) (by rfl) rfl (by first | (go_simp; done) | (go_simp; rfl)) ?_
     clear hHeld
     clear y80 y81 y82 y83 y84 y85 f80 f81 f82 f83 f84 f85
     have qs0 := blk_set H8.out 0 (.int .i64 q0)
     have qs1 := blk_set qs0 1 (.int .i64 q1)
     have qs2 := blk_set qs1 2 (.int .i64 q2)
     have qs3 := blk_set qs2 3 (.int .i64 q3)
     have qs4 := blk_set qs3 4 (.int .i64 q4)
     have qs5 := blk_set qs4 5 (.int .i64 q5)
     have qa := qs5.trans (show _ = some (Obj.cells #[.int .i64 q0, .int .i64 q1, .int .i64 q2, .int .i64 q3, .int .i64 q4, .int .i64 q5] 46 (0, 0)) from rfl)
     have qk := ((((((Kept.refl u4 (fun k => k = b8)).setCell (p := ⟨b8, 0, none⟩) (.inl rfl) (.int .i64 q0)).setCell (p := ⟨b8, 1, none⟩) (.inl rfl) (.int .i64 q1)).setCell (p := ⟨b8, 2, none⟩) (.inl rfl) (.int .i64 q2)).setCell (p := ⟨b8, 3, none⟩) (.inl rfl) (.int .i64 q3)).setCell (p := ⟨b8, 4, none⟩) (.inl rfl) (.int .i64 q4)).setCell (p := ⟨b8, 5, none⟩) (.inl rfl) (.int .i64 q5)
     have qb := (((((H.out.hb.setCell (p := ⟨b8, 0, none⟩) (Nat.le_trans hw0 l8) (.int .i64 q0)).setCell (p := ⟨b8, 1, none⟩) (Nat.le_trans hw0 l8) (.int .i64 q1)).setCell (p := ⟨b8, 2, none⟩) (Nat.le_trans hw0 l8) (.int .i64 q2)).setCell (p := ⟨b8, 3, none⟩) (Nat.le_trans hw0 l8) (.int .i64 q3)).setCell (p := ⟨b8, 4, none⟩) (Nat.le_trans hw0 l8) (.int .i64 q4)).setCell (p := ⟨b8, 5, none⟩) (Nat.le_trans hw0 l8) (.int .i64 q5)
     have qh := H.out.but H8.out (by decide) qk qb
     have qo6 := blk_kept H6.out qk (show b6 ≠ b8 from n6_8)
     have qK := HK.out.then_ qk (fun k hk => .inr (by rw [hk]; exact l8))
     clear H HK H8 H6 qs0 qs1 qs2 qs3 qs4 qs5 qk qb
     generalize (((((u4.setCell ⟨b8, 0, none⟩ (.int .i64 q0)).setCell ⟨b8, 1, none⟩ (.int .i64 q1)).setCell ⟨b8, 2, none⟩ (.int .i64 q2)).setCell ⟨b8, 3, none⟩ (.int .i64 q3)).setCell ⟨b8, 4, none⟩ (.int .i64 q4)).setCell ⟨b8, 5, none⟩ (.int .i64 q5) = u5 at qa qh qK qo6 ⊢
     have H := am qh
     have HK := am qK
     have H8 := am qa
     have H6 := am qo6
     clear qa qh qK qo6
     refine hK.out _ _ H.out.hg (fun hHeld => ?_)
     clear hK K
     refine pure_ (i := 17) (N := (some 7)) (v := ?_) (a' := ?_) (flg 18 262143) rfl rfl (by kernel_rfl) (fun _ _ _ h => h) (Or.inl ⟨by rfl, ?_⟩) ?_ ?_
     rotate_left
     ·
      intro w'
      go_simp
      with_reducible rfl
     rotate_left
     ·
      simp only [pw]
      rfl
     refine done_ (by kernel_rfl) ?_
     exact join b8 u5 ⟨l8, n6_8, H, HK, H6, H8⟩
   ·
    skip
    refine event_step (v := .pointer (some ⟨u1.heap.size, 0, none⟩)) (w1 := u1.alloc (.cells #[.int .i64 0, .int .i64 0, .int .i64 0, .int .i64 0, .int .i64 0, .int .i64 0] 46)) (by rfl) (by first | (go_simp; done) | (go_simp; rfl)) ?_
    have n6_8 : b6 ≠ u1.heap.size := Nat.ne_of_lt (blk_lt H6.out)
    have l8 : w.heap.size ≤ u1.heap.size := HK.out.1
    replace H := am (H.out.alloc (.cells #[.int .i64 0, .int .i64 0, .int .i64 0, .int .i64 0, .int .i64 0, .int .i64 0] 46))
    replace HK := am (HK.out.alloc (.cells #[.int .i64 0, .int .i64 0, .int .i64 0, .int .i64 0, .int .i64 0, .int .i64 0] 46))
    replace H6 := am (blk_alloc H6.out (.cells #[.int .i64 0, .int .i64 0, .int .i64 0, .int .i64 0, .int .i64 0, .int .i64 0] 46))
    have H8 := am (blk_new u1 (.cells #[.int .i64 0, .int .i64 0, .int .i64 0, .int .i64 0, .int .i64 0, .int .i64 0] 46))
    generalize u1.alloc (.cells #[.int .i64 0, .int .i64 0, .int .i64 0, .int .i64 0, .int .i64 0, .int .i64 0] 46) = u2 at H HK H8 H6 ⊢
    generalize u1.heap.size = b8 at H8 l8 n6_8 ⊢
    clear hHeld
    refine hK.out _ _ H.out.hg (fun hHeld => ?_)
    clear hK K
    refine norm_ (a' := ?_) ?_ ?_
    rotate_left
    ·
     show Act.put _ (some 8) _ = _
     simp only [pw]
     rfl
    refine one_ (i := 10) (N := (some 38)) (flg 18 34815) rfl rfl (by kernel_rfl) (by decide) (fun K hK => ?_)
    refine goes_ Tryz.func69 (by kernel_rfl) rfl #[.pointer (some ⟨f, 0, none⟩), .bool hd] (by rfl) rfl rfl (by (try simp only [List.map_toArray, List.map_cons, List.map_nil]); first | done | rfl) ?_
    refine (HADD.out u2 f last run H.out.hf).mono ?_
    rintro e u3 ⟨rfl, hb⟩
    replace H := am (H.out.below hb)
    replace HK := am (HK.out.below hb)
    replace H6 := am (blk_below H6.out hb)
    replace H8 := am (blk_below H8.out hb)
    clear hb hHeld
    refine ⟨_, rfl, ?_⟩
    refine hK.out _ _ H.out.hg (fun hHeld => ?_)
    clear hK K
    refine norm_ (a' := ?_) ?_ ?_
    rotate_left
    ·
     show Act.put _ (some 38) _ = _
     simp only [pw]
     rfl
    refine one_ (i := 11) (N := (some 39)) (flg 18 36863) rfl rfl (by kernel_rfl) (by decide) (fun K hK => ?_)
    refine goes_ Tryz.func68 (by kernel_rfl) rfl #[.agg #[.int .i64 s.p0, .int .i64 s.p1, .int .i64 s.p2, .int .i64 s.p3, .int .i64 s.p4, .int .i64 s.p5], .agg #[.int .i64 a0, .int .i64 a1, .int .i64 a2]] (by rfl) rfl rfl (by (try simp only [List.map_toArray, List.map_cons, List.map_nil]); first | done | rfl) ?_
    refine (HSP.out u3 (HG.out.below H.out.hb)).mono ?_
    rintro e u4 ⟨rfl, hb⟩
    replace H := am (H.out.below hb)
    replace HK := am (HK.out.below hb)
    replace H6 := am (blk_below H6.out hb)
    replace H8 := am (blk_below H8.out hb)
    clear hb hHeld
    refine ⟨_, rfl, ?_⟩
    refine hK.out _ _ H.out.hg (fun hHeld => ?_)
    clear hK K
    refine norm_ (a' := ?_) ?_ ?_
    rotate_left
    ·
     show Act.put _ (some 39) _ = _
     simp only [pw]
     rfl
    refine pure_ (i := 12) (N := (some 27)) (v := ?_) (a' := ?_) (flg 18 40959) rfl rfl (by kernel_rfl) (fun _ _ _ h => h) (Or.inl ⟨by rfl, ?_⟩) ?_ ?_
    rotate_left
    ·
     intro w'
     go_simp
     with_reducible rfl
    rotate_left
    ·
     simp only [pw]
     rfl
    refine pure_ (i := 13) (N := (some 40)) (v := ?_) (a' := ?_) (flg 18 49151) rfl rfl (by kernel_rfl) (fun _ _ _ h => h) (Or.inl ⟨by rfl, ?_⟩) ?_ ?_
    rotate_left
    ·
     intro w'
     go_simp
     with_reducible rfl
    rotate_left
    ·
     simp only [pw]
     rfl
    refine pure_ (i := 14) (N := (some 41)) (v := ?_) (a' := ?_) (flg 18 65535) rfl rfl (by kernel_rfl) (fun _ _ _ h => h) (Or.inl ⟨by rfl, ?_⟩) ?_ ?_
    rotate_left
    ·
     intro w'
     go_simp
     with_reducible rfl
    rotate_left
    ·
     simp only [pw]
     rfl
    have y80 := bcv H8.out 0 (.int .i64 0) rfl
    have f80 := bfz H8.out 0
    have y81 := bcv H8.out 1 (.int .i64 0) rfl
    have f81 := bfz H8.out 1
    have y82 := bcv H8.out 2 (.int .i64 0) rfl
    have f82 := bfz H8.out 2
    have y83 := bcv H8.out 3 (.int .i64 0) rfl
    have f83 := bfz H8.out 3
    have y84 := bcv H8.out 4 (.int .i64 0) rfl
    have f84 := bfz H8.out 4
    have y85 := bcv H8.out 5 (.int .i64 0) rfl
    have f85 := bfz H8.out 5
    refine one_ (i := 16) (N := none) (flg 18 131071) rfl rfl (by kernel_rfl) (by decide) (fun K hK => ?_)
    refine skip_ (w1 := (((((u4.setCell ⟨b8, 0, none⟩ (.int .i64 q0)).setCell ⟨b8, 1, none⟩ (.int .i64 q1)).setCell ⟨b8, 2, none⟩ (.int .i64 q2)).setCell ⟨b8, 3, none⟩ (.int .i64 q3)).setCell ⟨b8, 4, none⟩ (.int .i64 q4)).setCell ⟨b8, 5, none⟩ (.int .i64 q5)) (by rfl) rfl (by first | (go_simp; done) | (go_simp; rfl)) ?_
    clear hHeld
    clear y80 y81 y82 y83 y84 y85 f80 f81 f82 f83 f84 f85
    have qs0 := blk_set H8.out 0 (.int .i64 q0)
    have qs1 := blk_set qs0 1 (.int .i64 q1)
    have qs2 := blk_set qs1 2 (.int .i64 q2)
    have qs3 := blk_set qs2 3 (.int .i64 q3)
    have qs4 := blk_set qs3 4 (.int .i64 q4)
    have qs5 := blk_set qs4 5 (.int .i64 q5)
    have qa := qs5.trans (show _ = some (Obj.cells #[.int .i64 q0, .int .i64 q1, .int .i64 q2, .int .i64 q3, .int .i64 q4, .int .i64 q5] 46 (0, 0)) from rfl)
    have qk := ((((((Kept.refl u4 (fun k => k = b8)).setCell (p := ⟨b8, 0, none⟩) (.inl rfl) (.int .i64 q0)).setCell (p := ⟨b8, 1, none⟩) (.inl rfl) (.int .i64 q1)).setCell (p := ⟨b8, 2, none⟩) (.inl rfl) (.int .i64 q2)).setCell (p := ⟨b8, 3, none⟩) (.inl rfl) (.int .i64 q3)).setCell (p := ⟨b8, 4, none⟩) (.inl rfl) (.int .i64 q4)).setCell (p := ⟨b8, 5, none⟩) (.inl rfl) (.int .i64 q5)
    have qb := (((((H.out.hb.setCell (p := ⟨b8, 0, none⟩) (Nat.le_trans hw0 l8) (.int .i64 q0)).setCell (p := ⟨b8, 1, none⟩) (Nat.le_trans hw0 l8) (.int .i64 q1)).setCell (p := ⟨b8, 2, none⟩) (Nat.le_trans hw0 l8) (.int .i64 q2)).setCell (p := ⟨b8, 3, none⟩) (Nat.le_trans hw0 l8) (.int .i64 q3)).setCell (p := ⟨b8, 4, none⟩) (Nat.le_trans hw0 l8) (.int .i64 q4)).setCell (p := ⟨b8, 5, none⟩) (Nat.le_trans hw0 l8) (.int .i64 q5)
    have qh := H.out.but H8.out (by decide) qk qb
    have qo6 := blk_kept H6.out qk (show b6 ≠ b8 from n6_8)
    have qK := HK.out.then_ qk (fun k hk => .inr (by rw [hk]; exact l8))
    clear H HK H8 H6 qs0 qs1 qs2 qs3 qs4 qs5 qk qb
    generalize (((((u4.setCell ⟨b8, 0, none⟩ (.int .i64 q0)).setCell ⟨b8, 1, none⟩ (.int .i64 q1)).setCell ⟨b8, 2, none⟩ (.int .i64 q2)).setCell ⟨b8, 3, none⟩ (.int .i64 q3)).setCell ⟨b8, 4, none⟩ (.int .i64 q4)).setCell ⟨b8, 5, none⟩ (.int .i64 q5) = u5 at qa qh qK qo6 ⊢
    have H := am qh
    have HK := am qK
    have H8 := am qa
    have H6 := am qo6
    clear qa qh qK qo6
    refine hK.out _ _ H.out.hg (fun hHeld => ?_)
    clear hK K
    refine pure_ (i := 17) (N := (some 7)) (v := ?_) (a' := ?_) (flg 18 262143) rfl rfl (by kernel_rfl) (fun _ _ _ h => h) (Or.inl ⟨by rfl, ?_⟩) ?_ ?_
    rotate_left
    ·
     intro w'
     go_simp
     with_reducible rfl
    rotate_left
    ·
     simp only [pw]
     rfl
    refine done_ (by kernel_rfl) ?_
    exact join b8 u5 ⟨l8, n6_8, H, HK, H6, H8⟩
  ·
   clear H HK H6
   rintro b8 v1 ⟨l8, n6_8, H, HK, H6, H8⟩
   go_upto_region 4 with fail
   rename_i KA hKA KB hKB
   have HKA := am hKA
   clear hKA
   apply cutA_ (K := KA) (fun a W => a.tmps.size = 65 ∧ a.defers = [] ∧ a.tmps.getD 0 undef = .pointer (some ⟨g, 0, none⟩) ∧ a.tmps.getD 6 undef = .pointer (some ⟨b6, 0, none⟩) ∧ a.tmps.getD 7 undef = .int .i64 e2 ∧ a.tmps.getD 8 undef = .pointer (some ⟨b8, 0, none⟩) ∧ Aside0 (Chan w0 W g f gr s c v mode since last run band noise rough count known l) ∧ Aside0 (Kept w W (fun k => k = g)) ∧ Aside0 (W.heap[b6]? = some (.cells #[.int .i64 X0, .int .i64 X1, .int .i64 X2] 26 (0, 0))) ∧ Aside0 (W.heap[b8]? = some (.cells #[.int .i64 P0, .int .i64 P1, .int .i64 P2, .int .i64 P3, .int .i64 P4, .int .i64 P5] 46 (0, 0))))
   ·
    intro join
    have JN := am join
    clear join
    by_cases h0 : e2 = 0
    ·
     have q1 : (e2 == 0) = true := by simp [h0]
     have q2 : decide (e2 = 0) = true := decide_eq_true h0
     go_wp2_with fail
     obtain ⟨hx0, hx1, hx2, hx3, hx4, hx5⟩ := HP1.out h0
     replace H8 := am (show v1.heap[b8]? = some (Obj.cells #[.int .i64 P0, .int .i64 P1, .int .i64 P2, .int .i64 P3, .int .i64 P4, .int .i64 P5] 46 (0, 0)) by rw [hx0, hx1, hx2, hx3, hx4, hx5]; exact H8.out)
     refine JN.out _ _ ?_
     exact ⟨rfl, rfl, rfl, rfl, rfl, rfl, H, HK, H6, H8⟩
    ·
     skip
     have q1' : (e2 == 0) = false := by simp [h0]
     have q2' : decide (e2 = 0) = false := decide_eq_false h0
     have yg3 := bcv H.out.hg 3 (.int .i64 s.p0) rfl
     have yg4 := bcv H.out.hg 4 (.int .i64 s.p1) rfl
     have yg5 := bcv H.out.hg 5 (.int .i64 s.p2) rfl
     have yg6 := bcv H.out.hg 6 (.int .i64 s.p3) rfl
     have yg7 := bcv H.out.hg 7 (.int .i64 s.p4) rfl
     have yg8 := bcv H.out.hg 8 (.int .i64 s.p5) rfl
     have y80 := bcv H8.out 0 (.int .i64 q0) rfl
     have f80 := bfz H8.out 0
     have y81 := bcv H8.out 1 (.int .i64 q1) rfl
     have f81 := bfz H8.out 1
     have y82 := bcv H8.out 2 (.int .i64 q2) rfl
     have f82 := bfz H8.out 2
     have y83 := bcv H8.out 3 (.int .i64 q3) rfl
     have f83 := bfz H8.out 3
     have y84 := bcv H8.out 4 (.int .i64 q4) rfl
     have f84 := bfz H8.out 4
     have y85 := bcv H8.out 5 (.int .i64 q5) rfl
     have f85 := bfz H8.out 5
     go_wp2_with fail
     clear yg3 yg4 yg5 yg6 yg7 yg8
     clear y80 y81 y82 y83 y84 y85 f80 f81 f82 f83 f84 f85
     have qs0 := blk_set H8.out 0 (.int .i64 s.p0)
     have qs1 := blk_set qs0 1 (.int .i64 s.p1)
     have qs2 := blk_set qs1 2 (.int .i64 s.p2)
     have qs3 := blk_set qs2 3 (.int .i64 s.p3)
     have qs4 := blk_set qs3 4 (.int .i64 s.p4)
     have qs5 := blk_set qs4 5 (.int .i64 s.p5)
     have qa := qs5.trans (show _ = some (Obj.cells #[.int .i64 s.p0, .int .i64 s.p1, .int .i64 s.p2, .int .i64 s.p3, .int .i64 s.p4, .int .i64 s.p5] 46 (0, 0)) from rfl)
     have qk := ((((((Kept.refl v1 (fun k => k = b8)).setCell (p := ⟨b8, 0, none⟩) (.inl rfl) (.int .i64 s.p0)).setCell (p := ⟨b8, 1, none⟩) (.inl rfl) (.int .i64 s.p1)).setCell (p := ⟨b8, 2, none⟩) (.inl rfl) (.int .i64 s.p2)).setCell (p := ⟨b8, 3, none⟩) (.inl rfl) (.int .i64 s.p3)).setCell (p := ⟨b8, 4, none⟩) (.inl rfl) (.int .i64 s.p4)).setCell (p := ⟨b8, 5, none⟩) (.inl rfl) (.int .i64 s.p5)
     have qb := (((((H.out.hb.setCell (p := ⟨b8, 0, none⟩) (Nat.le_trans hw0 l8) (.int .i64 s.p0)).setCell (p := ⟨b8, 1, none⟩) (Nat.le_trans hw0 l8) (.int .i64 s.p1)).setCell (p := ⟨b8, 2, none⟩) (Nat.le_trans hw0 l8) (.int .i64 s.p2)).setCell (p := ⟨b8, 3, none⟩) (Nat.le_trans hw0 l8) (.int .i64 s.p3)).setCell (p := ⟨b8, 4, none⟩) (Nat.le_trans hw0 l8) (.int .i64 s.p4)).setCell (p := ⟨b8, 5, none⟩) (Nat.le_trans hw0 l8) (.int .i64 s.p5)
     have qh := H.out.but H8.out (by decide) qk qb
     have qo6 := blk_kept H6.out qk (show b6 ≠ b8 from n6_8)
     have qK := HK.out.then_ qk (fun k hk => .inr (by rw [hk]; exact l8))
     clear H HK H8 H6 qs0 qs1 qs2 qs3 qs4 qs5 qk qb
     generalize (((((v1.setCell ⟨b8, 0, none⟩ (.int .i64 s.p0)).setCell ⟨b8, 1, none⟩ (.int .i64 s.p1)).setCell ⟨b8, 2, none⟩ (.int .i64 s.p2)).setCell ⟨b8, 3, none⟩ (.int .i64 s.p3)).setCell ⟨b8, 4, none⟩ (.int .i64 s.p4)).setCell ⟨b8, 5, none⟩ (.int .i64 s.p5) = v2 at qa qh qK qo6 ⊢
     have H := am qh
     have HK := am qK
     have H8 := am qa
     have H6 := am qo6
     clear qa qh qK qo6
     obtain ⟨hx0, hx1, hx2, hx3, hx4, hx5⟩ := HP2.out h0
     replace H8 := am (show v2.heap[b8]? = some (Obj.cells #[.int .i64 P0, .int .i64 P1, .int .i64 P2, .int .i64 P3, .int .i64 P4, .int .i64 P5] 46 (0, 0)) by rw [hx0, hx1, hx2, hx3, hx4, hx5]; exact H8.out)
     refine JN.out _ _ ?_
     exact ⟨rfl, rfl, rfl, rfl, rfl, rfl, H, HK, H6, H8⟩
   ·
    clear H HK H6 H8
    rintro a v3 ⟨hsz, hd, e0, e6, e7, e8, H, HK, H6, H8⟩
    obtain ⟨T, ds⟩ := a
    obtain rfl : ds = [] := hd
    obtain ⟨S, rfl⟩ := mlit6 T _ _ _ _ hsz e0 e6 e7 e8
    clear hsz e0 e6 e7 e8
    refine HKA.out _ _ ?_
    clear HKA
    have y60 := bcv H6.out 0 (.int .i64 X0) rfl
    have y61 := bcv H6.out 1 (.int .i64 X1) rfl
    have y62 := bcv H6.out 2 (.int .i64 X2) rfl
    have y80 := bcv H8.out 0 (.int .i64 P0) rfl
    have y81 := bcv H8.out 1 (.int .i64 P1) rfl
    have y82 := bcv H8.out 2 (.int .i64 P2) rfl
    have y83 := bcv H8.out 3 (.int .i64 P3) rfl
    have y84 := bcv H8.out 4 (.int .i64 P4) rfl
    have y85 := bcv H8.out 5 (.int .i64 P5) rfl
    go_wp2_with fail
    refine (HKE.out v3 g f gr s v mode since (HG.out.below H.out.hb) H.out.hg).mono ?_
    rintro e v4 ⟨rfl, hb⟩
    replace H := am (H.out.below hb)
    replace HK := am (HK.out.below hb)
    replace H6 := am (blk_below H6.out hb)
    replace H8 := am (blk_below H8.out hb)
    clear hb
    clear y60 y61 y62
    clear y80 y81 y82 y83 y84 y85
    unfold gsV
    go_upto_region 7 with fail
    have l9 : w.heap.size ≤ v4.heap.size := HK.out.1
    replace H := am (H.out.alloc (.cells #[.int .i64 k.x0, .int .i64 k.x1, .int .i64 k.x2, .int .i64 k.p0, .int .i64 k.p1, .int .i64 k.p2, .int .i64 k.p3, .int .i64 k.p4, .int .i64 k.p5] 50))
    replace HK := am (HK.out.alloc (.cells #[.int .i64 k.x0, .int .i64 k.x1, .int .i64 k.x2, .int .i64 k.p0, .int .i64 k.p1, .int .i64 k.p2, .int .i64 k.p3, .int .i64 k.p4, .int .i64 k.p5] 50))
    have H9 := am (blk_new v4 (.cells #[.int .i64 k.x0, .int .i64 k.x1, .int .i64 k.x2, .int .i64 k.p0, .int .i64 k.p1, .int .i64 k.p2, .int .i64 k.p3, .int .i64 k.p4, .int .i64 k.p5] 50))
    generalize v4.alloc (.cells #[.int .i64 k.x0, .int .i64 k.x1, .int .i64 k.x2, .int .i64 k.p0, .int .i64 k.p1, .int .i64 k.p2, .int .i64 k.p3, .int .i64 k.p4, .int .i64 k.p5] 50) = v5 at H HK H9 ⊢
    generalize v4.heap.size = b9 at H9 l9 ⊢
    clear H6 H8
    rename_i KA hKA KB hKB
    have HKA := am hKA
    clear hKA
    apply cutA_ (K := KA) (fun a W => a.tmps.size = 65 ∧ a.defers = [] ∧ a.tmps.getD 0 undef = .pointer (some ⟨g, 0, none⟩) ∧ a.tmps.getD 9 undef = .pointer (some ⟨b9, 0, none⟩) ∧ Aside0 (Chan w0 W g f gr s c v mode since last run band noise rough count known l) ∧ Aside0 (Kept w W (fun k => k = g)) ∧ Aside0 (W.heap[b9]? = some (.cells #[.int .i64 s'.x0, .int .i64 s'.x1, .int .i64 s'.x2, .int .i64 s'.p0, .int .i64 s'.p1, .int .i64 s'.p2, .int .i64 s'.p3, .int .i64 s'.p4, .int .i64 s'.p5] 50 (0, 0))))
    ·
     intro join
     have JN := am join
     clear join
     by_cases h0 : e2 = 0
     ·
      have q1 : (e2 == 0) = true := by simp [h0]
      have q2 : decide (e2 = 0) = true := decide_eq_true h0
      go_wp2_with fail
      have hx0 := HS1.out h0
      replace H9 := am (show v5.heap[b9]? = some (Obj.cells #[.int .i64 s'.x0, .int .i64 s'.x1, .int .i64 s'.x2, .int .i64 s'.p0, .int .i64 s'.p1, .int .i64 s'.p2, .int .i64 s'.p3, .int .i64 s'.p4, .int .i64 s'.p5] 50 (0, 0)) by rw [hx0]; exact H9.out)
      refine JN.out _ _ ?_
      exact ⟨rfl, rfl, rfl, rfl, H, HK, H9⟩
     ·
      skip
      have q1' : (e2 == 0) = false := by simp [h0]
      have q2' : decide (e2 = 0) = false := decide_eq_false h0
      have yg3 := bcv H.out.hg 3 (.int .i64 s.p0) rfl
      have yg4 := bcv H.out.hg 4 (.int .i64 s.p1) rfl
      have yg5 := bcv H.out.hg 5 (.int .i64 s.p2) rfl
      have yg6 := bcv H.out.hg 6 (.int .i64 s.p3) rfl
      have yg7 := bcv H.out.hg 7 (.int .i64 s.p4) rfl
      have yg8 := bcv H.out.hg 8 (.int .i64 s.p5) rfl
      have y93 := bcv H9.out 3 (.int .i64 k.p0) rfl
      have f93 := bfz H9.out 3
      have y94 := bcv H9.out 4 (.int .i64 k.p1) rfl
      have f94 := bfz H9.out 4
      have y95 := bcv H9.out 5 (.int .i64 k.p2) rfl
      have f95 := bfz H9.out 5
      have y96 := bcv H9.out 6 (.int .i64 k.p3) rfl
      have f96 := bfz H9.out 6
      have y97 := bcv H9.out 7 (.int .i64 k.p4) rfl
      have f97 := bfz H9.out 7
      have y98 := bcv H9.out 8 (.int .i64 k.p5) rfl
      have f98 := bfz H9.out 8
      go_wp2_with fail
      clear yg3 yg4 yg5 yg6 yg7 yg8
      clear y93 y94 y95 y96 y97 y98 f93 f94 f95 f96 f97 f98
      have qs0 := blk_set H9.out 3 (.int .i64 s.p0)
      have qs1 := blk_set qs0 4 (.int .i64 s.p1)
      have qs2 := blk_set qs1 5 (.int .i64 s.p2)
      have qs3 := blk_set qs2 6 (.int .i64 s.p3)
      have qs4 := blk_set qs3 7 (.int .i64 s.p4)
      have qs5 := blk_set qs4 8 (.int .i64 s.p5)
      have qa := qs5.trans (show _ = some (Obj.cells #[.int .i64 k.x0, .int .i64 k.x1, .int .i64 k.x2, .int .i64 s.p0, .int .i64 s.p1, .int .i64 s.p2, .int .i64 s.p3, .int .i64 s.p4, .int .i64 s.p5] 50 (0, 0)) from rfl)
      have qk := ((((((Kept.refl v5 (fun k => k = b9)).setCell (p := ⟨b9, 3, none⟩) (.inl rfl) (.int .i64 s.p0)).setCell (p := ⟨b9, 4, none⟩) (.inl rfl) (.int .i64 s.p1)).setCell (p := ⟨b9, 5, none⟩) (.inl rfl) (.int .i64 s.p2)).setCell (p := ⟨b9, 6, none⟩) (.inl rfl) (.int .i64 s.p3)).setCell (p := ⟨b9, 7, none⟩) (.inl rfl) (.int .i64 s.p4)).setCell (p := ⟨b9, 8, none⟩) (.inl rfl) (.int .i64 s.p5)
      have qb := (((((H.out.hb.setCell (p := ⟨b9, 3, none⟩) (Nat.le_trans hw0 l9) (.int .i64 s.p0)).setCell (p := ⟨b9, 4, none⟩) (Nat.le_trans hw0 l9) (.int .i64 s.p1)).setCell (p := ⟨b9, 5, none⟩) (Nat.le_trans hw0 l9) (.int .i64 s.p2)).setCell (p := ⟨b9, 6, none⟩) (Nat.le_trans hw0 l9) (.int .i64 s.p3)).setCell (p := ⟨b9, 7, none⟩) (Nat.le_trans hw0 l9) (.int .i64 s.p4)).setCell (p := ⟨b9, 8, none⟩) (Nat.le_trans hw0 l9) (.int .i64 s.p5)
      have qh := H.out.but H9.out (by decide) qk qb
      have qK := HK.out.then_ qk (fun k hk => .inr (by rw [hk]; exact l9))
      clear H HK H9 qs0 qs1 qs2 qs3 qs4 qs5 qk qb
      generalize (((((v5.setCell ⟨b9, 3, none⟩ (.int .i64 s.p0)).setCell ⟨b9, 4, none⟩ (.int .i64 s.p1)).setCell ⟨b9, 5, none⟩ (.int .i64 s.p2)).setCell ⟨b9, 6, none⟩ (.int .i64 s.p3)).setCell ⟨b9, 7, none⟩ (.int .i64 s.p4)).setCell ⟨b9, 8, none⟩ (.int .i64 s.p5) = v6 at qa qh qK ⊢
      have H := am qh
      have HK := am qK
      have H9 := am qa
      clear qa qh qK
      have hx0 := HS2.out h0
      replace H9 := am (show v6.heap[b9]? = some (Obj.cells #[.int .i64 s'.x0, .int .i64 s'.x1, .int .i64 s'.x2, .int .i64 s'.p0, .int .i64 s'.p1, .int .i64 s'.p2, .int .i64 s'.p3, .int .i64 s'.p4, .int .i64 s'.p5] 50 (0, 0)) by rw [hx0]; exact H9.out)
      refine JN.out _ _ ?_
      exact ⟨rfl, rfl, rfl, rfl, H, HK, H9⟩
    ·
     clear H HK H9
     rintro a z0 ⟨hsz, hd, e0, e9, H, HK, H9⟩
     obtain ⟨T, ds⟩ := a
     obtain rfl : ds = [] := hd
     obtain ⟨S, rfl⟩ := mlit9 T _ _ hsz e0 e9
     clear hsz e0 e9
     refine HKA.out _ _ ?_
     clear HKA
     have y90 := bcv H9.out 0 (.int .i64 s'.x0) rfl
     have y91 := bcv H9.out 1 (.int .i64 s'.x1) rfl
     have y92 := bcv H9.out 2 (.int .i64 s'.x2) rfl
     have y93 := bcv H9.out 3 (.int .i64 s'.p0) rfl
     have y94 := bcv H9.out 4 (.int .i64 s'.p1) rfl
     have y95 := bcv H9.out 5 (.int .i64 s'.p2) rfl
     have y96 := bcv H9.out 6 (.int .i64 s'.p3) rfl
     have y97 := bcv H9.out 7 (.int .i64 s'.p4) rfl
     have y98 := bcv H9.out 8 (.int .i64 s'.p5) rfl
     have yg0 := bcv H.out.hg 0 (.int .i64 s.x0) rfl
     have fg0 := bfz H.out.hg 0
     have yg1 := bcv H.out.hg 1 (.int .i64 s.x1) rfl
     have fg1 := bfz H.out.hg 1
     have yg2 := bcv H.out.hg 2 (.int .i64 s.x2) rfl
     have fg2 := bfz H.out.hg 2
     have yg3 := bcv H.out.hg 3 (.int .i64 s.p0) rfl
     have fg3 := bfz H.out.hg 3
     have yg4 := bcv H.out.hg 4 (.int .i64 s.p1) rfl
     have fg4 := bfz H.out.hg 4
     have yg5 := bcv H.out.hg 5 (.int .i64 s.p2) rfl
     have fg5 := bfz H.out.hg 5
     have yg6 := bcv H.out.hg 6 (.int .i64 s.p3) rfl
     have fg6 := bfz H.out.hg 6
     have yg7 := bcv H.out.hg 7 (.int .i64 s.p4) rfl
     have fg7 := bfz H.out.hg 7
     have yg8 := bcv H.out.hg 8 (.int .i64 s.p5) rfl
     have fg8 := bfz H.out.hg 8
     go_wp2_with fail
     have q := H.out.guess s'
     have qk := HK.out.then_ ((((((((((Kept.refl z0 (fun k => k = g)).setCell (p := ⟨g, 0, none⟩) (.inl rfl) (.int .i64 s'.x0)).setCell (p := ⟨g, 1, none⟩) (.inl rfl) (.int .i64 s'.x1)).setCell (p := ⟨g, 2, none⟩) (.inl rfl) (.int .i64 s'.x2)).setCell (p := ⟨g, 3, none⟩) (.inl rfl) (.int .i64 s'.p0)).setCell (p := ⟨g, 4, none⟩) (.inl rfl) (.int .i64 s'.p1)).setCell (p := ⟨g, 5, none⟩) (.inl rfl) (.int .i64 s'.p2)).setCell (p := ⟨g, 6, none⟩) (.inl rfl) (.int .i64 s'.p3)).setCell (p := ⟨g, 7, none⟩) (.inl rfl) (.int .i64 s'.p4)).setCell (p := ⟨g, 8, none⟩) (.inl rfl) (.int .i64 s'.p5)) (fun k hk => .inl hk)
     refine bodyPost_end (results_none rfl _ _ _) rfl ?_
     exact ⟨rfl, q, qk⟩
theorem cmp_some (h l h' l' : Int) : ∃ k r, wide_Cmp.f k h l h' l' = some r := by
 refine ⟨5, ?_⟩
 unfold wide_Cmp.f
 have a : ∃ r, cmp_Compare_int64.f h h' = some r := by
  unfold cmp_Compare_int64.f cmp_isNaN_int64.f
  simp
  split
  ·
   exact ⟨_, rfl⟩
  ·
   split
   ·
    exact ⟨_, rfl⟩
   ·
    exact ⟨_, rfl⟩
 have b : ∃ r, cmp_Compare_uint64.f l l' = some r := by
  unfold cmp_Compare_uint64.f cmp_isNaN_uint64.f
  simp
  split
  ·
   exact ⟨_, rfl⟩
  ·
   split
   ·
    exact ⟨_, rfl⟩
   ·
    exact ⟨_, rfl⟩
 obtain ⟨x, hx⟩ := a
 obtain ⟨y, hy⟩ := b
 rw [hx, hy]
 have key : ∃ r, cmp_Or_int.f 5 [x, y] = some r := by
  unfold cmp_Or_int.f
  by_cases h1 : x = 0
  ·
   by_cases h2 : y = 0
   ·
    subst h1; subst h2; exact ⟨0, by simp [cmp_Or_int.l0, rd, wrap64]⟩
   ·
    refine ⟨y, ?_⟩
    subst h1
    simp [cmp_Or_int.l0, rd, wrap64, h2]
  ·
   refine ⟨x, ?_⟩
   simp [cmp_Or_int.l0, rd, wrap64, h1]
 obtain ⟨r, hr⟩ := key
 exact ⟨r, by simp [hr]⟩
set_option maxRecDepth 100000 in
set_option maxHeartbeats 4000000 in
theorem right_some (y s : Int) : ∃ r, gate_right.f y s = some r := by
 have F : ∀ x, ∃ b, fix_Fits.f x = some b := by
  intro x
  unfold fix_Fits.f
  by_cases h : x ≥ -288230376151711744
  ·
   rw [if_pos h]; exact ⟨_, rfl⟩
  ·
   rw [if_neg h]; exact ⟨_, rfl⟩
 obtain ⟨a, ha⟩ := F y
 obtain ⟨b, hb⟩ := F s
 unfold gate_right.f
 rw [ha, hb]
 cases a <;> cases b <;> exact ⟨_, rfl⟩
set_option maxRecDepth 100000 in
set_option maxHeartbeats 4000000 in
theorem pass_tells (y s g : Int) : ∃ k, Tells 73 #[.int .i64 y, .int .i64 s, .int .i64 g] (.bool k) := by
 obtain ⟨rr, hr⟩ := right_some y s
 obtain ⟨h0, l0, u0, hm⟩ := mul_tells g s
 obtain ⟨h1, l1, e1, u1, hu⟩ := up_tells h0 l0 40 u0 (by decide) (by decide)
 obtain ⟨h2, l2, u2, hs⟩ := mul_tells y y
 obtain ⟨kk, r, hc⟩ := cmp_some h2 l2 h1 l1
 have HR := am hr
 have HM := am hm
 have HU := am hu
 have HS := am hs
 have HC := am hc
 clear hr hm hu hs hc u0 u1 u2
 cases rr with
 | false =>
  refine ⟨false, fun w hG => ?_⟩
  have HG := am hG
  clear hG
  unfold wide at HM HU HS HC
  go_enter Tryz.func73, Tryz.ntmps73
  go_wp2_with fail
  refine (gate_right.calls y s _ w HR.out).mono ?_
  rintro e w1 ⟨rfl, hd⟩
  have HB := am hd.below
  clear hd
  go_wp2_with fail
  go_ret
  exact ⟨rfl, HB.out⟩
 | true =>
  by_cases c1 : g < 0
  ·
   have p1 : decide (g < 0) = true := decide_eq_true c1
   refine ⟨false, fun w hG => ?_⟩
   have HG := am hG
   clear hG
   unfold wide at HM HU HS HC
   go_enter Tryz.func73, Tryz.ntmps73
   go_wp2_with fail
   refine (gate_right.calls y s _ w HR.out).mono ?_
   rintro e w1 ⟨rfl, hd⟩
   have HB := am hd.below
   clear hd
   go_wp2_with fail
   go_ret
   exact ⟨rfl, HB.out⟩
  ·
   have p1 : decide (g < 0) = false := decide_eq_false c1
   by_cases c2 : 1000 < g
   ·
    have p2 : decide (1000 < g) = true := decide_eq_true c2
    refine ⟨false, fun w hG => ?_⟩
    have HG := am hG
    clear hG
    unfold wide at HM HU HS HC
    go_enter Tryz.func73, Tryz.ntmps73
    go_wp2_with fail
    refine (gate_right.calls y s _ w HR.out).mono ?_
    rintro e w1 ⟨rfl, hd⟩
    have HB := am hd.below
    clear hd
    go_wp2_with fail
    go_ret
    exact ⟨rfl, HB.out⟩
   ·
    have p2 : decide (1000 < g) = false := decide_eq_false c2
    refine ⟨decide (r ≤ 0), fun w hG => ?_⟩
    have HG := am hG
    clear hG
    unfold wide at HM HU HS HC
    go_enter Tryz.func73, Tryz.ntmps73
    go_wp2_with fail
    refine (gate_right.calls y s _ w HR.out).mono ?_
    rintro e w1 ⟨rfl, hd⟩
    have HB := am hd.below
    clear hd
    go_wp2_with fail
    refine (HM.out w1 (HG.out.below HB.out)).mono ?_
    rintro e w2 ⟨rfl, hb⟩
    replace HB := am (below_step HB.out hb)
    clear hb
    go_wp2_with fail
    refine (HU.out w2 (HG.out.below HB.out)).mono ?_
    rintro e w3 ⟨rfl, hb⟩
    replace HB := am (below_step HB.out hb)
    clear hb
    go_upto_region 4 with fail
    have H7 := am (blk_new w3 (.cells #[.int .i64 h1, .int .u64 l1] 124))
    have g7 : w.heap.size ≤ w3.heap.size := HB.out.size
    replace HB := am (below_alloc HB.out (.cells #[.int .i64 h1, .int .u64 l1] 124))
    generalize w3.alloc (.cells #[.int .i64 h1, .int .u64 l1] 124) = w4 at H7 HB ⊢
    generalize w3.heap.size = b7 at H7 g7 ⊢
    refine start_ (n := 7) (S := fun w' => w'.heap[b7]? = some (.cells #[.int .i64 h1, .int .u64 l1] 124 (0, 0))) (ds := []) (flg 7 0) (by kernel_rfl) rfl rfl H7.out (fun hHeld => ?_)
    replace H7 := am (blk_drew H7.out)
    replace HB := am (below_drew HB.out)
    generalize w4.drew = wd at H7 HB hHeld ⊢
    refine pure_ (i := 0) (N := (some 28)) (v := ?_) (a' := ?_) (flg 7 1) rfl rfl (by kernel_rfl) (fun _ _ _ h => h) (Or.inl ⟨by rfl, ?_⟩) ?_ ?_
    rotate_left
    ·
     intro w'
     go_simp
     with_reducible rfl
    rotate_left
    ·
     simp only [pw]
     rfl
    refine pure_ (i := 1) (N := (some 29)) (v := ?_) (a' := ?_) (flg 7 3) rfl rfl (by kernel_rfl) (fun _ _ _ h => h) (Or.inl ⟨by rfl, ?_⟩) ?_ ?_
    rotate_left
    ·
     intro w'
     go_simp
     with_reducible rfl
    rotate_left
    ·
     simp only [pw]
     rfl
    refine take_ (i := 3) (N := (some 31)) (v := ?_) (a' := ?_) (flg 7 11) rfl rfl (by kernel_rfl) (fun _ _ _ h => h) (Or.inl ⟨by rfl, ?_⟩) hHeld ?_ ?_
    rotate_left
    ·
     rintro w' s0
     have x0 := bcv s0 0 (.int .i64 h1) rfl
     have x1 := bcv s0 1 (.int .u64 l1) rfl
     go_simp
     with_reducible rfl
    rotate_left
    ·
     simp only [pw]
     rfl
    refine one_ (i := 2) (N := (some 30)) (flg 7 15) rfl rfl (by kernel_rfl) (by decide) (fun K hK => ?_)
    refine goes_ Tryz.func98 (by kernel_rfl) rfl #[.int .i64 y, .int .i64 y] (by rfl) rfl rfl (by (try simp only [List.map_toArray, List.map_cons, List.map_nil]); first | done | rfl) ?_
    refine (HS.out wd (HG.out.below HB.out)).mono ?_
    rintro e wa ⟨rfl, hb⟩
    replace H7 := am (blk_below H7.out hb)
    replace HB := am (below_step HB.out hb)
    clear hb hHeld
    refine ⟨_, rfl, ?_⟩
    refine hK.out _ _ H7.out (fun hHeld => ?_)
    clear hK K
    refine norm_ (a' := ?_) ?_ ?_
    rotate_left
    ·
     show Act.put _ (some 30) _ = _
     simp only [pw]
     rfl
    refine one_ (i := 4) (N := (some 32)) (flg 7 31) rfl rfl (by kernel_rfl) (by decide) (fun K hK => ?_)
    refine goes_ Tryz.func108 (by kernel_rfl) rfl #[.agg #[.int .i64 h2, .int .u64 l2], .agg #[.int .i64 h1, .int .u64 l1]] (by rfl) rfl rfl (by (try simp only [List.map_toArray, List.map_cons, List.map_nil]); first | done | rfl) ?_
    refine (wide_Cmp.calls kk h2 l2 h1 l1 r wa HC.out).mono ?_
    rintro e wb ⟨rfl, hb⟩
    replace H7 := am (blk_below H7.out hb)
    replace HB := am (below_step HB.out hb)
    clear hb hHeld
    refine ⟨_, rfl, ?_⟩
    refine hK.out _ _ H7.out (fun hHeld => ?_)
    clear hK K
    refine norm_ (a' := ?_) ?_ ?_
    rotate_left
    ·
     show Act.put _ (some 32) _ = _
     simp only [pw]
     rfl
    refine pure_ (i := 5) (N := (some 33)) (v := ?_) (a' := ?_) (flg 7 63) rfl rfl (by kernel_rfl) (fun _ _ _ h => h) (Or.inl ⟨by rfl, ?_⟩) ?_ ?_
    rotate_left
    ·
     intro w'
     go_simp
     with_reducible rfl
    rotate_left
    ·
     simp only [pw]
     rfl
    refine pure_ (i := 6) (N := (some 6)) (v := ?_) (a' := ?_) (flg 7 127) rfl rfl (by kernel_rfl) (fun _ _ _ h => h) (Or.inl ⟨by rfl, ?_⟩) ?_ ?_
    rotate_left
    ·
     intro w'
     go_simp
     with_reducible rfl
    rotate_left
    ·
     simp only [pw]
     rfl
    refine done_ (by kernel_rfl) ?_
    go_wp2_with fail
    go_ret
    exact ⟨rfl, HB.out⟩
end Go.Proofs.YtpdahkgandaabaaGreatDoor.Ch
