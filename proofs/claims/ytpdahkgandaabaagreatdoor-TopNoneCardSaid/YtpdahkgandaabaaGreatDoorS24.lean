/- A part of the proof of the law TopNone of the top, where the package's tables hold what their initialisers lay. -/
import Derived.Test.YtpdahkgandaabaaGreatDoorS01
import Derived.Test.YtpdahkgandaabaaGreatDoorS02
import Derived.Test.YtpdahkgandaabaaGreatDoorS03
import Derived.Test.YtpdahkgandaabaaGreatDoorS04
import Derived.Test.YtpdahkgandaabaaGreatDoorS06
import Derived.Test.YtpdahkgandaabaaGreatDoorS10
import Derived.Test.YtpdahkgandaabaaGreatDoorS12
import Derived.Test.YtpdahkgandaabaaGreatDoorS19
import Derived.Test.YtpdahkgandaabaaGreatDoorS22
import Derived.Test.YtpdahkgandaabaaGreatDoorS23
namespace Go.Proofs.YtpdahkgandaabaaGreatDoor.Ch
open Go.RowKit Go.Proofs.YtpdahkgandaabaaGreatDoorW.PrintWords Go.Proofs.YtpdahkgandaabaaGreatDoorW.PrintLast Go.Proofs.YtpdahkgandaabaaGreatDoorW.PrintMore Go.Proofs.YtpdahkgandaabaaGreatDoor.PTopNames Go.Proofs.YtpdahkgandaabaaGreatDoor.Al
set_option linter.unusedVariables false
set_option linter.unusedSimpArgs false
set_option maxRecDepth 100000 in
set_option maxHeartbeats 4000000 in
theorem take_ex (c : Cf) (s : Gs) (band noise rough count : Int) (known : Bool) (cn : Int) (sh : Bool) : ∃ (tk nr : Bool) (s' : Gs), ∀ (w0 w : World) (g f gr : Nat) (v : Value) (mode since last run : Int) (l : List Int), G w0 → Chan w0 w g f gr s c v mode since last run band noise rough count known l →
  Calls Tryz.prog 27 #[.pointer (some ⟨g, 0, none⟩), .int .i64 cn, .bool sh] w fun e w' => e = .returned (.tuple #[.bool tk, .bool nr]) ∧ Chan w0 w' g f gr s' c v mode since last run band noise rough count known l ∧ Kept w w' (fun k => k = g) := by
 obtain ⟨z, n, nr, e0, hlv⟩ : ∃ z n nr e0, levelR band noise rough count known cn = .tuple #[.int .i64 z, .int .i64 n, .bool nr, .int .i64 e0] := ⟨_, _, _, _, rfl⟩
 have hlev := fun (w0 w : World) (gr : Nat) (hI : IsS93 w0 w gr band noise rough count known) (hT : Tab w) => hlv ▸ level_any w0 w gr band noise rough count known cn hI hT
 obtain ⟨y, sp, e1, hlook⟩ := look_tells s.x0 s.x1 s.x2 s.p0 s.p1 s.p2 s.p3 s.p4 s.p5 z n
 obtain ⟨kp, hpass⟩ := pass_tells y sp c.g
 obtain ⟨k0, k1, k2, e2, hgain⟩ := gof_tells s.p0 s.p1 s.p2 s.p3 s.p4 s.p5 sp c.t0 c.t1 c.t2 sh
 obtain ⟨f0, f1, f2, e3, hstate⟩ := state_tells s.x0 s.x1 s.x2 k0 k1 k2 y
 obtain ⟨d0, d1, d2, d3, d4, d5, e4, hdoubt⟩ := doubt_tells s.p0 s.p1 s.p2 s.p3 s.p4 s.p5 k0 k1 k2 sp
 obtain ⟨k, hk⟩ := kept_ex c f0 f1 f2 d0 d1 d2 d3 d4 d5
 obtain ⟨tk, s', hY, hN⟩ : ∃ (tk : Bool) (s' : Gs), (e0 = 0 → e1 = 0 → kp = true → e2 = 0 → e3 = 0 → e4 = 0 → tk = true ∧ s' = k) ∧ (¬ (e0 = 0 ∧ e1 = 0 ∧ kp = true ∧ e2 = 0 ∧ e3 = 0 ∧ e4 = 0) → tk = false ∧ s' = s) := by
  by_cases h : e0 = 0 ∧ e1 = 0 ∧ kp = true ∧ e2 = 0 ∧ e3 = 0 ∧ e4 = 0
  ·
   exact ⟨true, k, fun a b c d e f => ⟨rfl, rfl⟩, fun h' => absurd h h'⟩
  ·
   exact ⟨false, s, fun a b c d e f => absurd ⟨a, b, c, d, e, f⟩ h, fun _ => ⟨rfl, rfl⟩⟩
 refine ⟨tk, nr, s', fun w0 w g f gr v mode since last run l hG h => ?_⟩
 have hw0 := h.hb.size
 have H := am h
 have HK := am (Kept.refl w (fun k => k = g))
 have HLV := am hlev
 have HLO := am hlook
 have HPA := am hpass
 have HGA := am hgain
 have HST := am hstate
 have HDO := am hdoubt
 have HKE := am hk
 have HY := am hY
 have HN := am hN
 have HG := am hG
 clear hlv hlev hlook hpass hgain hstate hdoubt hk hY hN hG h
 unfold vec sym at *
 go_enter Tryz.func27, Tryz.ntmps27
 have yg42 := bcv H.out.hg 42 (.pointer (some ⟨gr, 0, none⟩)) rfl
 go_wp2_with fail
 go_step3
 go_wp2_with fail
 refine (HLV.out w0 w gr H.out.hi (HG.out.below H.out.hb).tab).mono ?_
 rintro e w1 ⟨rfl, hb⟩
 replace H := am (H.out.below hb)
 replace HK := am (HK.out.below hb)
 clear hb yg42
 go_upto_region 3 with fail
 have l11 : w.heap.size ≤ w1.heap.size := HK.out.1
 replace H := am (H.out.alloc (.cells #[.int .i64 0, .int .i64 0, .int .i64 0, .int .i64 0, .int .i64 0, .int .i64 0, .int .i64 0, .int .i64 0, .int .i64 0] 50))
 replace HK := am (HK.out.alloc (.cells #[.int .i64 0, .int .i64 0, .int .i64 0, .int .i64 0, .int .i64 0, .int .i64 0, .int .i64 0, .int .i64 0, .int .i64 0] 50))
 have H11 := am (blk_new w1 (.cells #[.int .i64 0, .int .i64 0, .int .i64 0, .int .i64 0, .int .i64 0, .int .i64 0, .int .i64 0, .int .i64 0, .int .i64 0] 50))
 generalize w1.alloc (.cells #[.int .i64 0, .int .i64 0, .int .i64 0, .int .i64 0, .int .i64 0, .int .i64 0, .int .i64 0, .int .i64 0, .int .i64 0] 50) = w2 at H HK H11 ⊢
 generalize w1.heap.size = b11 at H11 l11 ⊢
 go_wp2_with fail
 have n11_14 : b11 ≠ w2.heap.size := Nat.ne_of_lt (blk_lt H11.out)
 have l14 : w.heap.size ≤ w2.heap.size := HK.out.1
 replace H := am (H.out.alloc (.cells #[.int .i64 0, .int .i64 0, .int .i64 0] 26))
 replace HK := am (HK.out.alloc (.cells #[.int .i64 0, .int .i64 0, .int .i64 0] 26))
 replace H11 := am (blk_alloc H11.out (.cells #[.int .i64 0, .int .i64 0, .int .i64 0] 26))
 have H14 := am (blk_new w2 (.cells #[.int .i64 0, .int .i64 0, .int .i64 0] 26))
 generalize w2.alloc (.cells #[.int .i64 0, .int .i64 0, .int .i64 0] 26) = w3 at H HK H14 H11 ⊢
 generalize w2.heap.size = b14 at H14 l14 n11_14 ⊢
 have n14_11 := Ne.symm n11_14
 go_step3
 go_wp2_with fail
 refine wp_unroll (fun K hK => ?_)
 have HL := am hK
 clear hK
 by_cases h0 : e0 = 0
 ·
  have qa0 : (e0 == 0) = true := by simp [h0]
  have qb0 : decide (e0 = 0) = true := decide_eq_true h0
  go_upto_region 10 with fail
  refine start_ (n := 20) (S := fun w' => w'.heap[g]? = some (.cells (chanV s c f gr v mode since) 56 (0, 0))) (ds := []) (flg 20 0) (by kernel_rfl) rfl rfl H.out.hg (fun hHeld => ?_)
  replace H := am (H.out.drewN 1)
  replace HK := am (HK.out.drew)
  replace H11 := am (blk_drew H11.out)
  replace H14 := am (blk_drew H14.out)
  change Aside0 (Chan w0 w3.drew _ _ _ _ _ _ _ _ _ _ _ _ _ _ _ _) at H
  generalize w3.drew = u0 at H HK H11 H14 hHeld ⊢
  refine pure_ (i := 0) (N := (some 35)) (v := ?_) (a' := ?_) (flg 20 1) rfl rfl (by kernel_rfl) (fun _ _ _ h => h) (Or.inl ⟨by rfl, ?_⟩) ?_ ?_
  rotate_left
  ·
   intro w'
   go_simp
   with_reducible rfl
  rotate_left
  ·
   simp only [pw]
   rfl
  refine pure_ (i := 1) (N := (some 36)) (v := ?_) (a' := ?_) (flg 20 3) rfl rfl (by kernel_rfl) (fun _ _ _ h => h) (Or.inl ⟨by rfl, ?_⟩) ?_ ?_
  rotate_left
  ·
   intro w'
   go_simp
   with_reducible rfl
  rotate_left
  ·
   simp only [pw]
   rfl
  refine pure_ (i := 2) (N := (some 37)) (v := ?_) (a' := ?_) (flg 20 7) rfl rfl (by kernel_rfl) (fun _ _ _ h => h) (Or.inl ⟨by rfl, ?_⟩) ?_ ?_
  rotate_left
  ·
   intro w'
   go_simp
   with_reducible rfl
  rotate_left
  ·
   simp only [pw]
   rfl
  refine pure_ (i := 3) (N := (some 38)) (v := ?_) (a' := ?_) (flg 20 15) rfl rfl (by kernel_rfl) (fun _ _ _ h => h) (Or.inl ⟨by rfl, ?_⟩) ?_ ?_
  rotate_left
  ·
   intro w'
   go_simp
   with_reducible rfl
  rotate_left
  ·
   simp only [pw]
   rfl
  refine take_ (i := 4) (N := (some 39)) (v := ?_) (a' := ?_) (flg 20 31) rfl rfl (by kernel_rfl) (fun _ _ _ h => h) (Or.inl ⟨by rfl, ?_⟩) hHeld ?_ ?_
  rotate_left
  ·
   rintro w' s0
   have x0 := bcv s0 0 (.int .i64 s.x0) rfl
   have x1 := bcv s0 1 (.int .i64 s.x1) rfl
   have x2 := bcv s0 2 (.int .i64 s.x2) rfl
   go_simp
   with_reducible rfl
  rotate_left
  ·
   simp only [pw]
   rfl
  refine pure_ (i := 5) (N := (some 40)) (v := ?_) (a' := ?_) (flg 20 63) rfl rfl (by kernel_rfl) (fun _ _ _ h => h) (Or.inl ⟨by rfl, ?_⟩) ?_ ?_
  rotate_left
  ·
   intro w'
   go_simp
   with_reducible rfl
  rotate_left
  ·
   simp only [pw]
   rfl
  refine pure_ (i := 6) (N := (some 41)) (v := ?_) (a' := ?_) (flg 20 127) rfl rfl (by kernel_rfl) (fun _ _ _ h => h) (Or.inl ⟨by rfl, ?_⟩) ?_ ?_
  rotate_left
  ·
   intro w'
   go_simp
   with_reducible rfl
  rotate_left
  ·
   simp only [pw]
   rfl
  refine pure_ (i := 7) (N := (some 42)) (v := ?_) (a' := ?_) (flg 20 255) rfl rfl (by kernel_rfl) (fun _ _ _ h => h) (Or.inl ⟨by rfl, ?_⟩) ?_ ?_
  rotate_left
  ·
   intro w'
   go_simp
   with_reducible rfl
  rotate_left
  ·
   simp only [pw]
   rfl
  refine pure_ (i := 8) (N := (some 43)) (v := ?_) (a' := ?_) (flg 20 511) rfl rfl (by kernel_rfl) (fun _ _ _ h => h) (Or.inl ⟨by rfl, ?_⟩) ?_ ?_
  rotate_left
  ·
   intro w'
   go_simp
   with_reducible rfl
  rotate_left
  ·
   simp only [pw]
   rfl
  refine take_ (i := 9) (N := (some 44)) (v := ?_) (a' := ?_) (flg 20 1023) rfl rfl (by kernel_rfl) (fun _ _ _ h => h) (Or.inl ⟨by rfl, ?_⟩) hHeld ?_ ?_
  rotate_left
  ·
   rintro w' s0
   have x0 := bcv s0 3 (.int .i64 s.p0) rfl
   have x1 := bcv s0 4 (.int .i64 s.p1) rfl
   have x2 := bcv s0 5 (.int .i64 s.p2) rfl
   have x3 := bcv s0 6 (.int .i64 s.p3) rfl
   have x4 := bcv s0 7 (.int .i64 s.p4) rfl
   have x5 := bcv s0 8 (.int .i64 s.p5) rfl
   go_simp
   with_reducible rfl
  rotate_left
  ·
   simp only [pw]
   rfl
  refine pure_ (i := 10) (N := (some 45)) (v := ?_) (a' := ?_) (flg 20 2047) rfl rfl (by kernel_rfl) (fun _ _ _ h => h) (Or.inl ⟨by rfl, ?_⟩) ?_ ?_
  rotate_left
  ·
   intro w'
   go_simp
   with_reducible rfl
  rotate_left
  ·
   simp only [pw]
   rfl
  refine pure_ (i := 11) (N := (some 46)) (v := ?_) (a' := ?_) (flg 20 4095) rfl rfl (by kernel_rfl) (fun _ _ _ h => h) (Or.inl ⟨by rfl, ?_⟩) ?_ ?_
  rotate_left
  ·
   intro w'
   go_simp
   with_reducible rfl
  rotate_left
  ·
   simp only [pw]
   rfl
  refine one_ (i := 12) (N := (some 47)) (flg 20 8191) rfl rfl (by kernel_rfl) (by decide) (fun K hK => ?_)
  refine goes_ Tryz.func72 (by kernel_rfl) rfl #[.agg #[.int .i64 s.x0, .int .i64 s.x1, .int .i64 s.x2], .agg #[.int .i64 s.p0, .int .i64 s.p1, .int .i64 s.p2, .int .i64 s.p3, .int .i64 s.p4, .int .i64 s.p5], .int .i64 z, .int .i64 n] (by rfl) rfl rfl (by (try simp only [List.map_toArray, List.map_cons, List.map_nil]); first | done | rfl) ?_
  refine (HLO.out u0 (HG.out.below H.out.hb)).mono ?_
  rintro e u1 ⟨rfl, hb⟩
  replace H := am (H.out.below hb)
  replace HK := am (HK.out.below hb)
  replace H11 := am (blk_below H11.out hb)
  replace H14 := am (blk_below H14.out hb)
  clear hb hHeld
  refine ⟨_, rfl, ?_⟩
  refine hK.out _ _ H.out.hg (fun hHeld => ?_)
  clear hK K
  refine norm_ (a' := ?_) ?_ ?_
  rotate_left
  ·
   show Act.put _ (some 47) _ = _
   simp only [pw]
   rfl
  refine pure_ (i := 13) (N := (some 34)) (v := ?_) (a' := ?_) (flg 20 16383) rfl rfl (by kernel_rfl) (fun _ _ _ h => h) (Or.inl ⟨by rfl, ?_⟩) ?_ ?_
  rotate_left
  ·
   intro w'
   go_simp
   with_reducible rfl
  rotate_left
  ·
   simp only [pw]
   rfl
  refine pure_ (i := 14) (N := (some 48)) (v := ?_) (a' := ?_) (flg 20 32767) rfl rfl (by kernel_rfl) (fun _ _ _ h => h) (Or.inl ⟨by rfl, ?_⟩) ?_ ?_
  rotate_left
  ·
   intro w'
   go_simp
   with_reducible rfl
  rotate_left
  ·
   simp only [pw]
   rfl
  refine pure_ (i := 15) (N := (some 49)) (v := ?_) (a' := ?_) (flg 20 65535) rfl rfl (by kernel_rfl) (fun _ _ _ h => h) (Or.inl ⟨by rfl, ?_⟩) ?_ ?_
  rotate_left
  ·
   intro w'
   go_simp
   with_reducible rfl
  rotate_left
  ·
   simp only [pw]
   rfl
  refine pure_ (i := 16) (N := (some 50)) (v := ?_) (a' := ?_) (flg 20 131071) rfl rfl (by kernel_rfl) (fun _ _ _ h => h) (Or.inl ⟨by rfl, ?_⟩) ?_ ?_
  rotate_left
  ·
   intro w'
   go_simp
   with_reducible rfl
  rotate_left
  ·
   simp only [pw]
   rfl
  refine pure_ (i := 17) (N := (some 12)) (v := ?_) (a' := ?_) (flg 20 262143) rfl rfl (by kernel_rfl) (fun _ _ _ h => h) (Or.inl ⟨by rfl, ?_⟩) ?_ ?_
  rotate_left
  ·
   intro w'
   go_simp
   with_reducible rfl
  rotate_left
  ·
   simp only [pw]
   rfl
  refine pure_ (i := 18) (N := (some 13)) (v := ?_) (a' := ?_) (flg 20 524287) rfl rfl (by kernel_rfl) (fun _ _ _ h => h) (Or.inl ⟨by rfl, ?_⟩) ?_ ?_
  rotate_left
  ·
   intro w'
   go_simp
   with_reducible rfl
  rotate_left
  ·
   simp only [pw]
   rfl
  refine pure_ (i := 19) (N := (some 10)) (v := ?_) (a' := ?_) (flg 20 1048575) rfl rfl (by kernel_rfl) (fun _ _ _ h => h) (Or.inl ⟨by rfl, ?_⟩) ?_ ?_
  rotate_left
  ·
   intro w'
   go_simp
   with_reducible rfl
  rotate_left
  ·
   simp only [pw]
   rfl
  refine done_ (by kernel_rfl) ?_
  go_wp2_with fail
  refine HL.out _ _ ?_
  by_cases h1 : e1 = 0
  ·
   have qa1 : (e1 == 0) = true := by simp [h1]
   have qb1 : decide (e1 = 0) = true := decide_eq_true h1
   have yg29 := bcv H.out.hg 29 (.int .i64 c.g) rfl
   go_wp2_with fail
   refine (HPA.out u1 (HG.out.below H.out.hb)).mono ?_
   rintro e u2 ⟨rfl, hb⟩
   replace H := am (H.out.below hb)
   replace HK := am (HK.out.below hb)
   replace H11 := am (blk_below H11.out hb)
   replace H14 := am (blk_below H14.out hb)
   clear hb yg29
   cases hp : kp with
   | false =>
    obtain ⟨rfl, rfl⟩ := HN.out (fun h => by rw [hp] at h; cases h.2.2.1)
    go_wp2_with fail
    rw [Exit.noGoto_ret]
    go_ret2
    exact ⟨rfl, H.out, HK.out⟩
   | true =>
    go_upto_region 13 with fail
    refine start_ (n := 18) (S := fun w' => w'.heap[g]? = some (.cells (chanV s c f gr v mode since) 56 (0, 0))) (ds := []) (flg 18 0) (by kernel_rfl) rfl rfl H.out.hg (fun hHeld => ?_)
    replace H := am (H.out.drewN 1)
    replace HK := am (HK.out.drew)
    replace H11 := am (blk_drew H11.out)
    replace H14 := am (blk_drew H14.out)
    change Aside0 (Chan w0 u2.drew _ _ _ _ _ _ _ _ _ _ _ _ _ _ _ _) at H
    generalize u2.drew = u3 at H HK H11 H14 hHeld ⊢
    refine pure_ (i := 0) (N := (some 63)) (v := ?_) (a' := ?_) (flg 18 1) rfl rfl (by kernel_rfl) (fun _ _ _ h => h) (Or.inl ⟨by rfl, ?_⟩) ?_ ?_
    rotate_left
    ·
     intro w'
     go_simp
     with_reducible rfl
    rotate_left
    ·
     simp only [pw]
     rfl
    refine pure_ (i := 1) (N := (some 64)) (v := ?_) (a' := ?_) (flg 18 3) rfl rfl (by kernel_rfl) (fun _ _ _ h => h) (Or.inl ⟨by rfl, ?_⟩) ?_ ?_
    rotate_left
    ·
     intro w'
     go_simp
     with_reducible rfl
    rotate_left
    ·
     simp only [pw]
     rfl
    refine pure_ (i := 2) (N := (some 65)) (v := ?_) (a' := ?_) (flg 18 7) rfl rfl (by kernel_rfl) (fun _ _ _ h => h) (Or.inl ⟨by rfl, ?_⟩) ?_ ?_
    rotate_left
    ·
     intro w'
     go_simp
     with_reducible rfl
    rotate_left
    ·
     simp only [pw]
     rfl
    refine pure_ (i := 3) (N := (some 66)) (v := ?_) (a' := ?_) (flg 18 15) rfl rfl (by kernel_rfl) (fun _ _ _ h => h) (Or.inl ⟨by rfl, ?_⟩) ?_ ?_
    rotate_left
    ·
     intro w'
     go_simp
     with_reducible rfl
    rotate_left
    ·
     simp only [pw]
     rfl
    refine take_ (i := 4) (N := (some 67)) (v := ?_) (a' := ?_) (flg 18 31) rfl rfl (by kernel_rfl) (fun _ _ _ h => h) (Or.inl ⟨by rfl, ?_⟩) hHeld ?_ ?_
    rotate_left
    ·
     rintro w' s0
     have x0 := bcv s0 3 (.int .i64 s.p0) rfl
     have x1 := bcv s0 4 (.int .i64 s.p1) rfl
     have x2 := bcv s0 5 (.int .i64 s.p2) rfl
     have x3 := bcv s0 6 (.int .i64 s.p3) rfl
     have x4 := bcv s0 7 (.int .i64 s.p4) rfl
     have x5 := bcv s0 8 (.int .i64 s.p5) rfl
     go_simp
     with_reducible rfl
    rotate_left
    ·
     simp only [pw]
     rfl
    refine pure_ (i := 5) (N := (some 68)) (v := ?_) (a' := ?_) (flg 18 63) rfl rfl (by kernel_rfl) (fun _ _ _ h => h) (Or.inl ⟨by rfl, ?_⟩) ?_ ?_
    rotate_left
    ·
     intro w'
     go_simp
     with_reducible rfl
    rotate_left
    ·
     simp only [pw]
     rfl
    refine pure_ (i := 6) (N := (some 69)) (v := ?_) (a' := ?_) (flg 18 127) rfl rfl (by kernel_rfl) (fun _ _ _ h => h) (Or.inl ⟨by rfl, ?_⟩) ?_ ?_
    rotate_left
    ·
     intro w'
     go_simp
     with_reducible rfl
    rotate_left
    ·
     simp only [pw]
     rfl
    refine pure_ (i := 7) (N := (some 70)) (v := ?_) (a' := ?_) (flg 18 255) rfl rfl (by kernel_rfl) (fun _ _ _ h => h) (Or.inl ⟨by rfl, ?_⟩) ?_ ?_
    rotate_left
    ·
     intro w'
     go_simp
     with_reducible rfl
    rotate_left
    ·
     simp only [pw]
     rfl
    refine pure_ (i := 8) (N := (some 71)) (v := ?_) (a' := ?_) (flg 18 511) rfl rfl (by kernel_rfl) (fun _ _ _ h => h) (Or.inl ⟨by rfl, ?_⟩) ?_ ?_
    rotate_left
    ·
     intro w'
     go_simp
     with_reducible rfl
    rotate_left
    ·
     simp only [pw]
     rfl
    refine pure_ (i := 9) (N := (some 72)) (v := ?_) (a' := ?_) (flg 18 1023) rfl rfl (by kernel_rfl) (fun _ _ _ h => h) (Or.inl ⟨by rfl, ?_⟩) ?_ ?_
    rotate_left
    ·
     intro w'
     go_simp
     with_reducible rfl
    rotate_left
    ·
     simp only [pw]
     rfl
    refine pure_ (i := 10) (N := (some 73)) (v := ?_) (a' := ?_) (flg 18 2047) rfl rfl (by kernel_rfl) (fun _ _ _ h => h) (Or.inl ⟨by rfl, ?_⟩) ?_ ?_
    rotate_left
    ·
     intro w'
     go_simp
     with_reducible rfl
    rotate_left
    ·
     simp only [pw]
     rfl
    refine take_ (i := 11) (N := (some 74)) (v := ?_) (a' := ?_) (flg 18 4095) rfl rfl (by kernel_rfl) (fun _ _ _ h => h) (Or.inl ⟨by rfl, ?_⟩) hHeld ?_ ?_
    rotate_left
    ·
     rintro w' s0
     have x0 := bcv s0 30 (.int .i64 c.t0) rfl
     have x1 := bcv s0 31 (.int .i64 c.t1) rfl
     have x2 := bcv s0 32 (.int .i64 c.t2) rfl
     go_simp
     with_reducible rfl
    rotate_left
    ·
     simp only [pw]
     rfl
    refine one_ (i := 12) (N := (some 75)) (flg 18 8191) rfl rfl (by kernel_rfl) (by decide) (fun K hK => ?_)
    refine goes_ Tryz.func74 (by kernel_rfl) rfl #[.agg #[.int .i64 s.p0, .int .i64 s.p1, .int .i64 s.p2, .int .i64 s.p3, .int .i64 s.p4, .int .i64 s.p5], .int .i64 sp, .bool sh, .agg #[.int .i64 c.t0, .int .i64 c.t1, .int .i64 c.t2]] (by rfl) rfl rfl (by (try simp only [List.map_toArray, List.map_cons, List.map_nil]); first | done | rfl) ?_
    refine (HGA.out u3 (HG.out.below H.out.hb)).mono ?_
    rintro e u4 ⟨rfl, hb⟩
    replace H := am (H.out.below hb)
    replace HK := am (HK.out.below hb)
    replace H11 := am (blk_below H11.out hb)
    replace H14 := am (blk_below H14.out hb)
    clear hb hHeld
    refine ⟨_, rfl, ?_⟩
    refine hK.out _ _ H.out.hg (fun hHeld => ?_)
    clear hK K
    refine norm_ (a' := ?_) ?_ ?_
    rotate_left
    ·
     show Act.put _ (some 75) _ = _
     simp only [pw]
     rfl
    refine pure_ (i := 13) (N := (some 62)) (v := ?_) (a' := ?_) (flg 18 16383) rfl rfl (by kernel_rfl) (fun _ _ _ h => h) (Or.inl ⟨by rfl, ?_⟩) ?_ ?_
    rotate_left
    ·
     intro w'
     go_simp
     with_reducible rfl
    rotate_left
    ·
     simp only [pw]
     rfl
    refine pure_ (i := 14) (N := (some 76)) (v := ?_) (a' := ?_) (flg 18 32767) rfl rfl (by kernel_rfl) (fun _ _ _ h => h) (Or.inl ⟨by rfl, ?_⟩) ?_ ?_
    rotate_left
    ·
     intro w'
     go_simp
     with_reducible rfl
    rotate_left
    ·
     simp only [pw]
     rfl
    refine pure_ (i := 15) (N := (some 77)) (v := ?_) (a' := ?_) (flg 18 65535) rfl rfl (by kernel_rfl) (fun _ _ _ h => h) (Or.inl ⟨by rfl, ?_⟩) ?_ ?_
    rotate_left
    ·
     intro w'
     go_simp
     with_reducible rfl
    rotate_left
    ·
     simp only [pw]
     rfl
    have y140 := bcv H14.out 0 (.int .i64 0) rfl
    have f140 := bfz H14.out 0
    have y141 := bcv H14.out 1 (.int .i64 0) rfl
    have f141 := bfz H14.out 1
    have y142 := bcv H14.out 2 (.int .i64 0) rfl
    have f142 := bfz H14.out 2
    refine one_ (i := 16) (N := none) (flg 18 131071) rfl rfl (by kernel_rfl) (by decide) (fun K hK => ?_)
    refine skip_ (w1 := ((u4.setCell ⟨b14, 0, none⟩ (.int .i64 k0)).setCell ⟨b14, 1, none⟩ (.int .i64 k1)).setCell ⟨b14, 2, none⟩ (.int .i64 k2)) (by rfl) rfl (by first | (go_simp; done) | (go_simp; rfl)) ?_
    clear hHeld
    clear y140 y141 y142 f140 f141 f142
    have qs0 := blk_set H14.out 0 (.int .i64 k0)
    have qs1 := blk_set qs0 1 (.int .i64 k1)
    have qs2 := blk_set qs1 2 (.int .i64 k2)
    have qa := qs2.trans (show _ = some (Obj.cells #[.int .i64 k0, .int .i64 k1, .int .i64 k2] 26 (0, 0)) from rfl)
    have qk := (((Kept.refl u4 (fun k => k = b14)).setCell (p := ⟨b14, 0, none⟩) (.inl rfl) (.int .i64 k0)).setCell (p := ⟨b14, 1, none⟩) (.inl rfl) (.int .i64 k1)).setCell (p := ⟨b14, 2, none⟩) (.inl rfl) (.int .i64 k2)
    have qb := ((H.out.hb.setCell (p := ⟨b14, 0, none⟩) (Nat.le_trans hw0 l14) (.int .i64 k0)).setCell (p := ⟨b14, 1, none⟩) (Nat.le_trans hw0 l14) (.int .i64 k1)).setCell (p := ⟨b14, 2, none⟩) (Nat.le_trans hw0 l14) (.int .i64 k2)
    have qh := H.out.but H14.out (by decide) qk qb
    have qo11 := blk_kept H11.out qk (show b11 ≠ b14 from n11_14)
    have qK := HK.out.then_ qk (fun k hk => .inr (by rw [hk]; exact l14))
    clear H HK H14 H11 qs0 qs1 qs2 qk qb
    generalize ((u4.setCell ⟨b14, 0, none⟩ (.int .i64 k0)).setCell ⟨b14, 1, none⟩ (.int .i64 k1)).setCell ⟨b14, 2, none⟩ (.int .i64 k2) = u5 at qa qh qK qo11 ⊢
    have H := am qh
    have HK := am qK
    have H14 := am qa
    have H11 := am qo11
    clear qa qh qK qo11
    refine hK.out _ _ H.out.hg (fun hHeld => ?_)
    clear hK K
    refine pure_ (i := 17) (N := (some 10)) (v := ?_) (a' := ?_) (flg 18 262143) rfl rfl (by kernel_rfl) (fun _ _ _ h => h) (Or.inl ⟨by rfl, ?_⟩) ?_ ?_
    rotate_left
    ·
     intro w'
     go_simp
     with_reducible rfl
    rotate_left
    ·
     simp only [pw]
     rfl
    refine done_ (by kernel_rfl) ?_
    go_wp2_with fail
    refine HL.out _ _ ?_
    by_cases h2 : e2 = 0
    ·
     have qa2 : (e2 == 0) = true := by simp [h2]
     have qb2 : decide (e2 = 0) = true := decide_eq_true h2
     go_upto_region 15 with fail
     refine start_ (n := 14) (S := fun w' => w'.heap[g]? = some (.cells (chanV s c f gr v mode since) 56 (0, 0)) ∧ w'.heap[b14]? = some (.cells #[.int .i64 k0, .int .i64 k1, .int .i64 k2] 26 (0, 0))) (ds := []) (flg 14 0) (by kernel_rfl) rfl rfl ⟨H.out.hg, H14.out⟩ (fun hHeld => ?_)
     replace H := am (H.out.drewN 1)
     replace HK := am (HK.out.drew)
     replace H11 := am (blk_drew H11.out)
     replace H14 := am (blk_drew H14.out)
     change Aside0 (Chan w0 u5.drew _ _ _ _ _ _ _ _ _ _ _ _ _ _ _ _) at H
     generalize u5.drew = u6 at H HK H11 H14 hHeld ⊢
     refine pure_ (i := 0) (N := (some 81)) (v := ?_) (a' := ?_) (flg 14 1) rfl rfl (by kernel_rfl) (fun _ _ _ h => h) (Or.inl ⟨by rfl, ?_⟩) ?_ ?_
     rotate_left
     ·
      intro w'
      go_simp
      with_reducible rfl
     rotate_left
     ·
      simp only [pw]
      rfl
     refine pure_ (i := 1) (N := (some 82)) (v := ?_) (a' := ?_) (flg 14 3) rfl rfl (by kernel_rfl) (fun _ _ _ h => h) (Or.inl ⟨by rfl, ?_⟩) ?_ ?_
     rotate_left
     ·
      intro w'
      go_simp
      with_reducible rfl
     rotate_left
     ·
      simp only [pw]
      rfl
     refine pure_ (i := 2) (N := (some 83)) (v := ?_) (a' := ?_) (flg 14 7) rfl rfl (by kernel_rfl) (fun _ _ _ h => h) (Or.inl ⟨by rfl, ?_⟩) ?_ ?_
     rotate_left
     ·
      intro w'
      go_simp
      with_reducible rfl
     rotate_left
     ·
      simp only [pw]
      rfl
     refine pure_ (i := 3) (N := (some 84)) (v := ?_) (a' := ?_) (flg 14 15) rfl rfl (by kernel_rfl) (fun _ _ _ h => h) (Or.inl ⟨by rfl, ?_⟩) ?_ ?_
     rotate_left
     ·
      intro w'
      go_simp
      with_reducible rfl
     rotate_left
     ·
      simp only [pw]
      rfl
     refine take_ (i := 4) (N := (some 85)) (v := ?_) (a' := ?_) (flg 14 31) rfl rfl (by kernel_rfl) (fun _ _ _ h => h) (Or.inl ⟨by rfl, ?_⟩) hHeld ?_ ?_
     rotate_left
     ·
      rintro w' ⟨s0, s1⟩
      have x0 := bcv s0 0 (.int .i64 s.x0) rfl
      have x1 := bcv s0 1 (.int .i64 s.x1) rfl
      have x2 := bcv s0 2 (.int .i64 s.x2) rfl
      go_simp
      with_reducible rfl
     rotate_left
     ·
      simp only [pw]
      rfl
     refine take_ (i := 5) (N := (some 86)) (v := ?_) (a' := ?_) (flg 14 63) rfl rfl (by kernel_rfl) (fun _ _ _ h => h) (Or.inl ⟨by rfl, ?_⟩) hHeld ?_ ?_
     rotate_left
     ·
      rintro w' ⟨s0, s1⟩
      have x0 := bcv s1 0 (.int .i64 k0) rfl
      have x1 := bcv s1 1 (.int .i64 k1) rfl
      have x2 := bcv s1 2 (.int .i64 k2) rfl
      go_simp
      with_reducible rfl
     rotate_left
     ·
      simp only [pw]
      rfl
     refine pure_ (i := 6) (N := (some 87)) (v := ?_) (a' := ?_) (flg 14 127) rfl rfl (by kernel_rfl) (fun _ _ _ h => h) (Or.inl ⟨by rfl, ?_⟩) ?_ ?_
     rotate_left
     ·
      intro w'
      go_simp
      with_reducible rfl
     rotate_left
     ·
      simp only [pw]
      rfl
     refine one_ (i := 7) (N := (some 88)) (flg 14 255) rfl rfl (by kernel_rfl) (by decide) (fun K hK => ?_)
     refine goes_ Tryz.func75 (by kernel_rfl) rfl #[.agg #[.int .i64 s.x0, .int .i64 s.x1, .int .i64 s.x2], .agg #[.int .i64 k0, .int .i64 k1, .int .i64 k2], .int .i64 y] (by rfl) rfl rfl (by (try simp only [List.map_toArray, List.map_cons, List.map_nil]); first | done | rfl) ?_
     refine (HST.out u6 (HG.out.below H.out.hb)).mono ?_
     rintro e u7 ⟨rfl, hb⟩
     replace H := am (H.out.below hb)
     replace HK := am (HK.out.below hb)
     replace H11 := am (blk_below H11.out hb)
     replace H14 := am (blk_below H14.out hb)
     clear hb hHeld
     refine ⟨_, rfl, ?_⟩
     refine hK.out _ _ ⟨H.out.hg, H14.out⟩ (fun hHeld => ?_)
     clear hK K
     refine norm_ (a' := ?_) ?_ ?_
     rotate_left
     ·
      show Act.put _ (some 88) _ = _
      simp only [pw]
      rfl
     refine pure_ (i := 8) (N := (some 80)) (v := ?_) (a' := ?_) (flg 14 511) rfl rfl (by kernel_rfl) (fun _ _ _ h => h) (Or.inl ⟨by rfl, ?_⟩) ?_ ?_
     rotate_left
     ·
      intro w'
      go_simp
      with_reducible rfl
     rotate_left
     ·
      simp only [pw]
      rfl
     refine pure_ (i := 9) (N := (some 89)) (v := ?_) (a' := ?_) (flg 14 1023) rfl rfl (by kernel_rfl) (fun _ _ _ h => h) (Or.inl ⟨by rfl, ?_⟩) ?_ ?_
     rotate_left
     ·
      intro w'
      go_simp
      with_reducible rfl
     rotate_left
     ·
      simp only [pw]
      rfl
     refine pure_ (i := 10) (N := (some 90)) (v := ?_) (a' := ?_) (flg 14 2047) rfl rfl (by kernel_rfl) (fun _ _ _ h => h) (Or.inl ⟨by rfl, ?_⟩) ?_ ?_
     rotate_left
     ·
      intro w'
      go_simp
      with_reducible rfl
     rotate_left
     ·
      simp only [pw]
      rfl
     refine pure_ (i := 11) (N := (some 91)) (v := ?_) (a' := ?_) (flg 14 4095) rfl rfl (by kernel_rfl) (fun _ _ _ h => h) (Or.inl ⟨by rfl, ?_⟩) ?_ ?_
     rotate_left
     ·
      intro w'
      go_simp
      with_reducible rfl
     rotate_left
     ·
      simp only [pw]
      rfl
     have y110 := bcv H11.out 0 (.int .i64 0) rfl
     have f110 := bfz H11.out 0
     have y111 := bcv H11.out 1 (.int .i64 0) rfl
     have f111 := bfz H11.out 1
     have y112 := bcv H11.out 2 (.int .i64 0) rfl
     have f112 := bfz H11.out 2
     refine one_ (i := 12) (N := none) (flg 14 8191) rfl rfl (by kernel_rfl) (by decide) (fun K hK => ?_)
     refine skip_ (w1 := ((u7.setCell ⟨b11, 0, none⟩ (.int .i64 f0)).setCell ⟨b11, 1, none⟩ (.int .i64 f1)).setCell ⟨b11, 2, none⟩ (.int .i64 f2)) (by rfl) rfl (by first | (go_simp; done) | (go_simp; rfl)) ?_
     clear hHeld
     clear y110 y111 y112 f110 f111 f112
     have qs0 := blk_set H11.out 0 (.int .i64 f0)
     have qs1 := blk_set qs0 1 (.int .i64 f1)
     have qs2 := blk_set qs1 2 (.int .i64 f2)
     have qa := qs2.trans (show _ = some (Obj.cells #[.int .i64 f0, .int .i64 f1, .int .i64 f2, .int .i64 0, .int .i64 0, .int .i64 0, .int .i64 0, .int .i64 0, .int .i64 0] 50 (0, 0)) from rfl)
     have qk := (((Kept.refl u7 (fun k => k = b11)).setCell (p := ⟨b11, 0, none⟩) (.inl rfl) (.int .i64 f0)).setCell (p := ⟨b11, 1, none⟩) (.inl rfl) (.int .i64 f1)).setCell (p := ⟨b11, 2, none⟩) (.inl rfl) (.int .i64 f2)
     have qb := ((H.out.hb.setCell (p := ⟨b11, 0, none⟩) (Nat.le_trans hw0 l11) (.int .i64 f0)).setCell (p := ⟨b11, 1, none⟩) (Nat.le_trans hw0 l11) (.int .i64 f1)).setCell (p := ⟨b11, 2, none⟩) (Nat.le_trans hw0 l11) (.int .i64 f2)
     have qh := H.out.but H11.out (by decide) qk qb
     have qo14 := blk_kept H14.out qk (show b14 ≠ b11 from n14_11)
     have qK := HK.out.then_ qk (fun k hk => .inr (by rw [hk]; exact l11))
     clear H HK H11 H14 qs0 qs1 qs2 qk qb
     generalize ((u7.setCell ⟨b11, 0, none⟩ (.int .i64 f0)).setCell ⟨b11, 1, none⟩ (.int .i64 f1)).setCell ⟨b11, 2, none⟩ (.int .i64 f2) = u8 at qa qh qK qo14 ⊢
     have H := am qh
     have HK := am qK
     have H11 := am qa
     have H14 := am qo14
     clear qa qh qK qo14
     refine hK.out _ _ ⟨H.out.hg, H14.out⟩ (fun hHeld => ?_)
     clear hK K
     refine pure_ (i := 13) (N := (some 10)) (v := ?_) (a' := ?_) (flg 14 16383) rfl rfl (by kernel_rfl) (fun _ _ _ h => h) (Or.inl ⟨by rfl, ?_⟩) ?_ ?_
     rotate_left
     ·
      intro w'
      go_simp
      with_reducible rfl
     rotate_left
     ·
      simp only [pw]
      rfl
     refine done_ (by kernel_rfl) ?_
     go_wp2_with fail
     refine HL.out _ _ ?_
     by_cases h3 : e3 = 0
     ·
      have qa3 : (e3 == 0) = true := by simp [h3]
      have qb3 : decide (e3 = 0) = true := decide_eq_true h3
      go_upto_region 17 with fail
      refine start_ (n := 14) (S := fun w' => w'.heap[g]? = some (.cells (chanV s c f gr v mode since) 56 (0, 0)) ∧ w'.heap[b14]? = some (.cells #[.int .i64 k0, .int .i64 k1, .int .i64 k2] 26 (0, 0))) (ds := []) (flg 14 0) (by kernel_rfl) rfl rfl ⟨H.out.hg, H14.out⟩ (fun hHeld => ?_)
      replace H := am (H.out.drewN 1)
      replace HK := am (HK.out.drew)
      replace H11 := am (blk_drew H11.out)
      replace H14 := am (blk_drew H14.out)
      change Aside0 (Chan w0 u8.drew _ _ _ _ _ _ _ _ _ _ _ _ _ _ _ _) at H
      generalize u8.drew = u9 at H HK H11 H14 hHeld ⊢
      refine pure_ (i := 0) (N := (some 95)) (v := ?_) (a' := ?_) (flg 14 1) rfl rfl (by kernel_rfl) (fun _ _ _ h => h) (Or.inl ⟨by rfl, ?_⟩) ?_ ?_
      rotate_left
      ·
       intro w'
       go_simp
       with_reducible rfl
      rotate_left
      ·
       simp only [pw]
       rfl
      refine pure_ (i := 1) (N := (some 96)) (v := ?_) (a' := ?_) (flg 14 3) rfl rfl (by kernel_rfl) (fun _ _ _ h => h) (Or.inl ⟨by rfl, ?_⟩) ?_ ?_
      rotate_left
      ·
       intro w'
       go_simp
       with_reducible rfl
      rotate_left
      ·
       simp only [pw]
       rfl
      refine pure_ (i := 2) (N := (some 97)) (v := ?_) (a' := ?_) (flg 14 7) rfl rfl (by kernel_rfl) (fun _ _ _ h => h) (Or.inl ⟨by rfl, ?_⟩) ?_ ?_
      rotate_left
      ·
       intro w'
       go_simp
       with_reducible rfl
      rotate_left
      ·
       simp only [pw]
       rfl
      refine pure_ (i := 3) (N := (some 98)) (v := ?_) (a' := ?_) (flg 14 15) rfl rfl (by kernel_rfl) (fun _ _ _ h => h) (Or.inl ⟨by rfl, ?_⟩) ?_ ?_
      rotate_left
      ·
       intro w'
       go_simp
       with_reducible rfl
      rotate_left
      ·
       simp only [pw]
       rfl
      refine take_ (i := 4) (N := (some 99)) (v := ?_) (a' := ?_) (flg 14 31) rfl rfl (by kernel_rfl) (fun _ _ _ h => h) (Or.inl ⟨by rfl, ?_⟩) hHeld ?_ ?_
      rotate_left
      ·
       rintro w' ⟨s0, s1⟩
       have x0 := bcv s0 3 (.int .i64 s.p0) rfl
       have x1 := bcv s0 4 (.int .i64 s.p1) rfl
       have x2 := bcv s0 5 (.int .i64 s.p2) rfl
       have x3 := bcv s0 6 (.int .i64 s.p3) rfl
       have x4 := bcv s0 7 (.int .i64 s.p4) rfl
       have x5 := bcv s0 8 (.int .i64 s.p5) rfl
       go_simp
       with_reducible rfl
      rotate_left
      ·
       simp only [pw]
       rfl
      refine take_ (i := 5) (N := (some 100)) (v := ?_) (a' := ?_) (flg 14 63) rfl rfl (by kernel_rfl) (fun _ _ _ h => h) (Or.inl ⟨by rfl, ?_⟩) hHeld ?_ ?_
      rotate_left
      ·
       rintro w' ⟨s0, s1⟩
       have x0 := bcv s1 0 (.int .i64 k0) rfl
       have x1 := bcv s1 1 (.int .i64 k1) rfl
       have x2 := bcv s1 2 (.int .i64 k2) rfl
       go_simp
       with_reducible rfl
      rotate_left
      ·
       simp only [pw]
       rfl
      refine pure_ (i := 6) (N := (some 101)) (v := ?_) (a' := ?_) (flg 14 127) rfl rfl (by kernel_rfl) (fun _ _ _ h => h) (Or.inl ⟨by rfl, ?_⟩) ?_ ?_
      rotate_left
      ·
       intro w'
       go_simp
       with_reducible rfl
      rotate_left
      ·
       simp only [pw]
       rfl
      refine one_ (i := 7) (N := (some 102)) (flg 14 255) rfl rfl (by kernel_rfl) (by decide) (fun K hK => ?_)
      refine goes_ Tryz.func76 (by kernel_rfl) rfl #[.agg #[.int .i64 s.p0, .int .i64 s.p1, .int .i64 s.p2, .int .i64 s.p3, .int .i64 s.p4, .int .i64 s.p5], .agg #[.int .i64 k0, .int .i64 k1, .int .i64 k2], .int .i64 sp] (by rfl) rfl rfl (by (try simp only [List.map_toArray, List.map_cons, List.map_nil]); first | done | rfl) ?_
      refine (HDO.out u9 (HG.out.below H.out.hb)).mono ?_
      rintro e u10 ⟨rfl, hb⟩
      replace H := am (H.out.below hb)
      replace HK := am (HK.out.below hb)
      replace H11 := am (blk_below H11.out hb)
      replace H14 := am (blk_below H14.out hb)
      clear hb hHeld
      refine ⟨_, rfl, ?_⟩
      refine hK.out _ _ ⟨H.out.hg, H14.out⟩ (fun hHeld => ?_)
      clear hK K
      refine norm_ (a' := ?_) ?_ ?_
      rotate_left
      ·
       show Act.put _ (some 102) _ = _
       simp only [pw]
       rfl
      refine pure_ (i := 8) (N := (some 94)) (v := ?_) (a' := ?_) (flg 14 511) rfl rfl (by kernel_rfl) (fun _ _ _ h => h) (Or.inl ⟨by rfl, ?_⟩) ?_ ?_
      rotate_left
      ·
       intro w'
       go_simp
       with_reducible rfl
      rotate_left
      ·
       simp only [pw]
       rfl
      refine pure_ (i := 9) (N := (some 103)) (v := ?_) (a' := ?_) (flg 14 1023) rfl rfl (by kernel_rfl) (fun _ _ _ h => h) (Or.inl ⟨by rfl, ?_⟩) ?_ ?_
      rotate_left
      ·
       intro w'
       go_simp
       with_reducible rfl
      rotate_left
      ·
       simp only [pw]
       rfl
      refine pure_ (i := 10) (N := (some 104)) (v := ?_) (a' := ?_) (flg 14 2047) rfl rfl (by kernel_rfl) (fun _ _ _ h => h) (Or.inl ⟨by rfl, ?_⟩) ?_ ?_
      rotate_left
      ·
       intro w'
       go_simp
       with_reducible rfl
      rotate_left
      ·
       simp only [pw]
       rfl
      refine pure_ (i := 11) (N := (some 105)) (v := ?_) (a' := ?_) (flg 14 4095) rfl rfl (by kernel_rfl) (fun _ _ _ h => h) (Or.inl ⟨by rfl, ?_⟩) ?_ ?_
      rotate_left
      ·
       intro w'
       go_simp
       with_reducible rfl
      rotate_left
      ·
       simp only [pw]
       rfl
      have y113 := bcv H11.out 3 (.int .i64 0) rfl
      have f113 := bfz H11.out 3
      have y114 := bcv H11.out 4 (.int .i64 0) rfl
      have f114 := bfz H11.out 4
      have y115 := bcv H11.out 5 (.int .i64 0) rfl
      have f115 := bfz H11.out 5
      have y116 := bcv H11.out 6 (.int .i64 0) rfl
      have f116 := bfz H11.out 6
      have y117 := bcv H11.out 7 (.int .i64 0) rfl
      have f117 := bfz H11.out 7
      have y118 := bcv H11.out 8 (.int .i64 0) rfl
      have f118 := bfz H11.out 8
      refine one_ (i := 12) (N := none) (flg 14 8191) rfl rfl (by kernel_rfl) (by decide) (fun K hK => ?_)
      refine skip_ (w1 := (((((u10.setCell ⟨b11, 3, none⟩ (.int .i64 d0)).setCell ⟨b11, 4, none⟩ (.int .i64 d1)).setCell ⟨b11, 5, none⟩ (.int .i64 d2)).setCell ⟨b11, 6, none⟩ (.int .i64 d3)).setCell ⟨b11, 7, none⟩ (.int .i64 d4)).setCell ⟨b11, 8, none⟩ (.int .i64 d5)) (by rfl) rfl (by first | (go_simp; done) | (go_simp; rfl)) ?_
      clear hHeld
      clear y113 y114 y115 y116 y117 y118 f113 f114 f115 f116 f117 f118
      have qs0 := blk_set H11.out 3 (.int .i64 d0)
      have qs1 := blk_set qs0 4 (.int .i64 d1)
      have qs2 := blk_set qs1 5 (.int .i64 d2)
      have qs3 := blk_set qs2 6 (.int .i64 d3)
      have qs4 := blk_set qs3 7 (.int .i64 d4)
      have qs5 := blk_set qs4 8 (.int .i64 d5)
      have qa := qs5.trans (show _ = some (Obj.cells #[.int .i64 f0, .int .i64 f1, .int .i64 f2, .int .i64 d0, .int .i64 d1, .int .i64 d2, .int .i64 d3, .int .i64 d4, .int .i64 d5] 50 (0, 0)) from rfl)
      have qk := ((((((Kept.refl u10 (fun k => k = b11)).setCell (p := ⟨b11, 3, none⟩) (.inl rfl) (.int .i64 d0)).setCell (p := ⟨b11, 4, none⟩) (.inl rfl) (.int .i64 d1)).setCell (p := ⟨b11, 5, none⟩) (.inl rfl) (.int .i64 d2)).setCell (p := ⟨b11, 6, none⟩) (.inl rfl) (.int .i64 d3)).setCell (p := ⟨b11, 7, none⟩) (.inl rfl) (.int .i64 d4)).setCell (p := ⟨b11, 8, none⟩) (.inl rfl) (.int .i64 d5)
      have qb := (((((H.out.hb.setCell (p := ⟨b11, 3, none⟩) (Nat.le_trans hw0 l11) (.int .i64 d0)).setCell (p := ⟨b11, 4, none⟩) (Nat.le_trans hw0 l11) (.int .i64 d1)).setCell (p := ⟨b11, 5, none⟩) (Nat.le_trans hw0 l11) (.int .i64 d2)).setCell (p := ⟨b11, 6, none⟩) (Nat.le_trans hw0 l11) (.int .i64 d3)).setCell (p := ⟨b11, 7, none⟩) (Nat.le_trans hw0 l11) (.int .i64 d4)).setCell (p := ⟨b11, 8, none⟩) (Nat.le_trans hw0 l11) (.int .i64 d5)
      have qh := H.out.but H11.out (by decide) qk qb
      have qo14 := blk_kept H14.out qk (show b14 ≠ b11 from n14_11)
      have qK := HK.out.then_ qk (fun k hk => .inr (by rw [hk]; exact l11))
      clear H HK H11 H14 qs0 qs1 qs2 qs3 qs4 qs5 qk qb
      generalize (((((u10.setCell ⟨b11, 3, none⟩ (.int .i64 d0)).setCell ⟨b11, 4, none⟩ (.int .i64 d1)).setCell ⟨b11, 5, none⟩ (.int .i64 d2)).setCell ⟨b11, 6, none⟩ (.int .i64 d3)).setCell ⟨b11, 7, none⟩ (.int .i64 d4)).setCell ⟨b11, 8, none⟩ (.int .i64 d5) = u11 at qa qh qK qo14 ⊢
      have H := am qh
      have HK := am qK
      have H11 := am qa
      have H14 := am qo14
      clear qa qh qK qo14
      refine hK.out _ _ ⟨H.out.hg, H14.out⟩ (fun hHeld => ?_)
      clear hK K
      refine pure_ (i := 13) (N := (some 10)) (v := ?_) (a' := ?_) (flg 14 16383) rfl rfl (by kernel_rfl) (fun _ _ _ h => h) (Or.inl ⟨by rfl, ?_⟩) ?_ ?_
      rotate_left
      ·
       intro w'
       go_simp
       with_reducible rfl
      rotate_left
      ·
       simp only [pw]
       rfl
      refine done_ (by kernel_rfl) ?_
      go_wp2_with fail
      refine HL.out _ _ ?_
      by_cases h4 : e4 = 0
      ·
       have qa4 : (e4 == 0) = true := by simp [h4]
       have qb4 : decide (e4 = 0) = true := decide_eq_true h4
       have y110 := bcv H11.out 0 (.int .i64 f0) rfl
       have y111 := bcv H11.out 1 (.int .i64 f1) rfl
       have y112 := bcv H11.out 2 (.int .i64 f2) rfl
       have y113 := bcv H11.out 3 (.int .i64 d0) rfl
       have y114 := bcv H11.out 4 (.int .i64 d1) rfl
       have y115 := bcv H11.out 5 (.int .i64 d2) rfl
       have y116 := bcv H11.out 6 (.int .i64 d3) rfl
       have y117 := bcv H11.out 7 (.int .i64 d4) rfl
       have y118 := bcv H11.out 8 (.int .i64 d5) rfl
       go_wp2_with fail
       refine (HKE.out u11 g f gr s v mode since (HG.out.below H.out.hb) H.out.hg).mono ?_
       rintro e u12 ⟨rfl, hb⟩
       replace H := am (H.out.below hb)
       replace HK := am (HK.out.below hb)
       clear hb H11 H14
       clear y110 y111 y112 y113 y114 y115 y116 y117 y118
       unfold gsV
       have yg0 := bcv H.out.hg 0 (.int .i64 s.x0) rfl
       have fg0 := bfz H.out.hg 0
       have yg1 := bcv H.out.hg 1 (.int .i64 s.x1) rfl
       have fg1 := bfz H.out.hg 1
       have yg2 := bcv H.out.hg 2 (.int .i64 s.x2) rfl
       have fg2 := bfz H.out.hg 2
       have yg3 := bcv H.out.hg 3 (.int .i64 s.p0) rfl
       have fg3 := bfz H.out.hg 3
       have yg4 := bcv H.out.hg 4 (.int .i64 s.p1) rfl
       have fg4 := bfz H.out.hg 4
       have yg5 := bcv H.out.hg 5 (.int .i64 s.p2) rfl
       have fg5 := bfz H.out.hg 5
       have yg6 := bcv H.out.hg 6 (.int .i64 s.p3) rfl
       have fg6 := bfz H.out.hg 6
       have yg7 := bcv H.out.hg 7 (.int .i64 s.p4) rfl
       have fg7 := bfz H.out.hg 7
       have yg8 := bcv H.out.hg 8 (.int .i64 s.p5) rfl
       have fg8 := bfz H.out.hg 8
       go_wp2_with fail
       have q := H.out.guess k
       have qk := HK.out.then_ ((((((((((Kept.refl u12 (fun k => k = g)).setCell (p := ⟨g, 0, none⟩) (.inl rfl) (.int .i64 k.x0)).setCell (p := ⟨g, 1, none⟩) (.inl rfl) (.int .i64 k.x1)).setCell (p := ⟨g, 2, none⟩) (.inl rfl) (.int .i64 k.x2)).setCell (p := ⟨g, 3, none⟩) (.inl rfl) (.int .i64 k.p0)).setCell (p := ⟨g, 4, none⟩) (.inl rfl) (.int .i64 k.p1)).setCell (p := ⟨g, 5, none⟩) (.inl rfl) (.int .i64 k.p2)).setCell (p := ⟨g, 6, none⟩) (.inl rfl) (.int .i64 k.p3)).setCell (p := ⟨g, 7, none⟩) (.inl rfl) (.int .i64 k.p4)).setCell (p := ⟨g, 8, none⟩) (.inl rfl) (.int .i64 k.p5)) (fun k hk => .inl hk)
       obtain ⟨rfl, rfl⟩ := HY.out h0 h1 hp h2 h3 h4
       rw [Exit.noGoto_ret]
       go_ret2
       exact ⟨rfl, q, qk⟩
      ·
       obtain ⟨rfl, rfl⟩ := HN.out (fun h => h4 h.2.2.2.2.2)
       have qa4 : (e4 == 0) = false := by simp [h4]
       have qb4 : decide (e4 = 0) = false := decide_eq_false h4
       go_wp2_with fail
       go_ret2
       exact ⟨rfl, H.out, HK.out⟩
     ·
      obtain ⟨rfl, rfl⟩ := HN.out (fun h => h3 h.2.2.2.2.1)
      have qa3 : (e3 == 0) = false := by simp [h3]
      have qb3 : decide (e3 = 0) = false := decide_eq_false h3
      go_wp2_with fail
      go_ret2
      exact ⟨rfl, H.out, HK.out⟩
    ·
     obtain ⟨rfl, rfl⟩ := HN.out (fun h => h2 h.2.2.2.1)
     have qa2 : (e2 == 0) = false := by simp [h2]
     have qb2 : decide (e2 = 0) = false := decide_eq_false h2
     go_wp2_with fail
     go_ret2
     exact ⟨rfl, H.out, HK.out⟩
  ·
   obtain ⟨rfl, rfl⟩ := HN.out (fun h => h1 h.2.1)
   have qa1 : (e1 == 0) = false := by simp [h1]
   have qb1 : decide (e1 = 0) = false := decide_eq_false h1
   go_wp2_with fail
   go_ret2
   exact ⟨rfl, H.out, HK.out⟩
 ·
  obtain ⟨rfl, rfl⟩ := HN.out (fun h => h0 h.1)
  have qa0 : (e0 == 0) = false := by simp [h0]
  have qb0 : decide (e0 = 0) = false := decide_eq_false h0
  go_wp2_with fail
  go_ret2
  exact ⟨rfl, H.out, HK.out⟩
end Go.Proofs.YtpdahkgandaabaaGreatDoor.Ch
namespace Go.Proofs.YtpdahkgandaabaaGreatDoor.PTopNames
open Go.RowKit Go.Proofs.YtpdahkgandaabaaGreatDoorW.PrintWords Go.Proofs.YtpdahkgandaabaaGreatDoorW.PrintLast Go.Proofs.YtpdahkgandaabaaGreatDoorW.PrintMore
attribute [local go_sem] max2_int min2_int max_two min_two max_three min_three max_four min_four
set_option linter.unusedVariables false
set_option linter.unusedSimpArgs false
mutual
def mode_Clock_On.j0 : Nat → Int → Int → Int → Bool → Int → Int → Option (Int × Int)
 | 0, _, _, _, _, _, _ => none
 | k + 1, x1, x2, x3, x9, x162000, x162001 => if x9 = true then (mode_Clock_On.j1 k x1 x2 x3 x9 (x1 == 3) x162000 x162001) else (mode_Clock_On.j1 k x1 x2 x3 x9 false x162000 x162001)
def mode_Clock_On.j1 : Nat → Int → Int → Int → Bool → Bool → Int → Int → Option (Int × Int)
 | 0, _, _, _, _, _, _, _ => none
 | k + 1, x1, x2, x3, x9, x16, x162000, x162001 => if x16 = true then (some (3, 0)) else (if x9 = true then (mode_Clock_On.j2 k x1 x2 x3 (x1 == 0) x162000 x162001) else (mode_Clock_On.j2 k x1 x2 x3 false x162000 x162001))
def mode_Clock_On.j2 : Nat → Int → Int → Int → Bool → Int → Int → Option (Int × Int)
 | 0, _, _, _, _, _, _ => none
 | k + 1, x1, x2, x3, x23, x162000, x162001 => if x23 = true then (mode_Clock_On.j3 k x1 x2 x3 x23 x162000 x162001) else ((mode_Clock_Valid.f x162000 x162001).bind fun t165 => (if t165 = true then (mode_Clock_On.j3 k x1 x2 x3 (x1 == 1) x162000 x162001) else (mode_Clock_On.j3 k x1 x2 x3 false x162000 x162001)))
def mode_Clock_On.j3 : Nat → Int → Int → Int → Bool → Int → Int → Option (Int × Int)
 | 0, _, _, _, _, _, _ => none
 | k + 1, x1, x2, x3, x23, x162000, x162001 => if x23 = true then (some (1, 0)) else ((mode_Clock_Valid.f x162000 x162001).bind fun t166 => (if t166 = true then (if x1 = 2 then ((mode_Clock_missed.f x162000 x162001 x2 x3).bind fun bt167 => (some (bt167.1, bt167.2))) else (some (x162000, x162001))) else (some (x162000, x162001))))
end
def mode_Clock_On.f (k : Nat) (a0_0 : Int) (a0_1 : Int) (a1 : Int) (a2 : Int) (a3 : Int) : Option (Int × Int) := (mode_Clock_Valid.f a0_0 a0_1).bind fun t163 => (if t163 = true then (mode_Clock_On.j0 k a1 a2 a3 true a0_0 a0_1) else ((mode_Clock_Seeks.f a0_0 a0_1).bind fun t164 => (mode_Clock_On.j0 k a1 a2 a3 t164 a0_0 a0_1)))
end Go.Proofs.YtpdahkgandaabaaGreatDoor.PTopNames
namespace Go.Proofs.YtpdahkgandaabaaGreatDoor.Ch
open Go.RowKit Go.Proofs.YtpdahkgandaabaaGreatDoorW.PrintWords Go.Proofs.YtpdahkgandaabaaGreatDoorW.PrintLast Go.Proofs.YtpdahkgandaabaaGreatDoorW.PrintMore Go.Proofs.YtpdahkgandaabaaGreatDoor.PTopNames
set_option linter.unusedVariables false
set_option linter.unusedSimpArgs false
set_option maxRecDepth 100000 in
set_option maxHeartbeats 4000000 in
theorem half_zero (w : World) : Calls Tryz.prog 78 #[.agg #[.int .i64 0, .int .u64 0], .int .i64 24] w fun e w' => e = .returned (.tuple #[.agg #[.int .i64 0, .int .u64 0], .int .i64 0]) ∧ Below w.heap.size w w' := by
 go_enter Tryz.func78, Tryz.ntmps78
 go_upto_region 1 with fail
 obtain ⟨x2, x3, hB⟩ := blocks2 w #[.int .i64 0, .int .u64 0] #[.int .i64 0, .int .u64 0] 124 124
 generalize (w.alloc (.cells #[.int .i64 0, .int .u64 0] 124)).alloc (.cells #[.int .i64 0, .int .u64 0] 124) = w1 at x2 x3 hB ⊢
 obtain ⟨b2, h2⟩ : ∃ b, b = w.heap.size := ⟨_, rfl⟩
 obtain ⟨b4, h4⟩ : ∃ b, b = w.heap.size + 1 := ⟨_, rfl⟩
 have g2 : w.heap.size ≤ b2 := by omega
 have g4 : w.heap.size ≤ b4 := by omega
 have ne : b2 ≠ b4 := by omega
 rw [← h4, ← h2]
 rw [← h4] at x3
 rw [← h2] at x2
 have HX := am x2
 have HY := am x3
 have HB := am hB
 clear x2 x3 hB h2 h4
 go_wp2_with fail
 go_loopw [6, 7, 16] (fun v6 v7 v16 wr => ∃ k : Nat, k ≤ 24 ∧ v6 = .int .u64 0 ∧ v7 = .int .u64 0 ∧ v16 = .int .i64 k ∧ Aside0 (wr.heap[b2]? = some (.cells #[.int .i64 0, .int .u64 0] 124 (0, 0))) ∧ Aside0 (wr.heap[b4]? = some (.cells #[.int .i64 0, .int .u64 0] 124 (0, 0))) ∧ Aside0 (Below w.heap.size w wr)) (fun _ _ v16 _ => 25 - (intOf v16).toNat)
 case atStart => exact ⟨0, by omega, rfl, rfl, rfl, HX, HY, HB⟩
 case round =>
  clear HX HY HB
  obtain ⟨k, hk, rfl, rfl, rfl, HX, HY, HB⟩ := hrel
  have y0 := bcv HX.out 0 (.int .i64 0) rfl
  have y1 := bcv HX.out 1 (.int .u64 0) rfl
  have f0 := bfz HX.out 0
  have f1 := bfz HX.out 1
  by_cases hlt : k < 24
  ·
   have q0 : decide ((k : Int) < 24) = true := decide_eq_true (by omega)
   go_wp2_with fail
   refine (wide_down.calls 0 0 0 0 0 wr (by decide)).mono ?_
   rintro e w2 ⟨rfl, hb⟩
   replace HX := am (blk_below HX.out hb)
   replace HY := am (blk_below HY.out hb)
   replace HB := am (below_step HB.out hb)
   clear hb y0 y1 f0 f1
   have y0 := bcv HX.out 0 (.int .i64 0) rfl
   have y1 := bcv HX.out 1 (.int .u64 0) rfl
   have f0 := bfz HX.out 0
   have f1 := bfz HX.out 1
   go_wp2_with fail
   have q := blk_set (blk_set HX.out 0 (.int .i64 0)) 1 (.int .u64 0)
   have q2 := blk_far (blk_far HY.out (p := ⟨b2, 0, none⟩) (Ne.symm ne) (.int .i64 0)) (p := ⟨b2, 1, none⟩) (Ne.symm ne) (.int .u64 0)
   have q3 := (HB.out.setCell (p := ⟨b2, 0, none⟩) g2 (.int .i64 0)).setCell (p := ⟨b2, 1, none⟩) g2 (.int .u64 0)
   go_roundw
   case rel => exact ⟨k + 1, hlt, rfl, rfl, rfl, ⟨q⟩, ⟨q2⟩, ⟨q3⟩⟩
   case measure => simp [intOf]; omega
  ·
   have q0 : decide ((k : Int) < 24) = false := decide_eq_false (by omega)
   have z0 := bcv HY.out 0 (.int .i64 0) rfl
   have z1 := bcv HY.out 1 (.int .u64 0) rfl
   have e0 := bfz HY.out 0
   have e1 := bfz HY.out 1
   go_wp2_with fail
   have q := blk_set (blk_set HY.out 0 (.int .i64 0)) 1 (.int .u64 0)
   have q3 := (HB.out.setCell (p := ⟨b4, 0, none⟩) g4 (.int .i64 0)).setCell (p := ⟨b4, 1, none⟩) g4 (.int .u64 0)
   generalize (wr.setCell ⟨b4, 0, none⟩ (.int .i64 0)).setCell ⟨b4, 1, none⟩ (.int .u64 0) = wz at q q3 ⊢
   have r0 := bcv q 0 (.int .i64 0) rfl
   have r1 := bcv q 1 (.int .u64 0) rfl
   refine ⟨rfl, .tuple #[.agg #[.int .i64 0, .int .u64 0], .int .i64 0], ?_, rfl, q3⟩
   simp [results, Tryz.results78, go_sem, r0, r1]
set_option maxRecDepth 100000 in
set_option maxHeartbeats 4000000 in
theorem out_zero (w : World) : Calls Tryz.prog 30 #[.int .i64 0] w fun e w' => e = .returned (.int .i64 0) ∧ Below w.heap.size w w' := by
 go_enter Tryz.func30, Tryz.ntmps30
 go_wp2_with fail
 refine (wide_Of.calls 0 0 0 w (by decide)).mono ?_
 rintro e w1 ⟨rfl, hb⟩
 have HB := am hb
 clear hb
 go_wp2_with fail
 refine (half_zero w1).mono ?_
 rintro e w2 ⟨rfl, hb⟩
 replace HB := am (below_step HB.out hb)
 clear hb
 go_wp2_with fail
 refine (wide_Int.calls 0 0 0 0 _ (by kernel_rfl)).mono ?_
 rintro e w3 ⟨rfl, hb⟩
 replace HB := am (below_step (below_alloc HB.out _) hb)
 clear hb
 go_wp2_with fail
 go_ret
 exact ⟨rfl, HB.out⟩
end Go.Proofs.YtpdahkgandaabaaGreatDoor.Ch
namespace Go.Proofs.YtpdahkgandaabaaGreatDoor.Ch
open Go.RowKit Go.Proofs.YtpdahkgandaabaaGreatDoorW.PrintWords Go.Proofs.YtpdahkgandaabaaGreatDoorW.PrintLast Go.Proofs.YtpdahkgandaabaaGreatDoorW.PrintMore Go.Proofs.YtpdahkgandaabaaGreatDoor.PTopNames Go.Proofs.YtpdahkgandaabaaGreatDoor.Al
namespace Mo
def allG (l : List Int) : Bool := l.all good
theorem w64 {x : Int} (h0 : -9223372036854775808 ≤ x) (h1 : x ≤ 9223372036854775807) : wrap64 x = x := by
 unfold wrap64
 omega
theorem rd_mid (pre t : List Int) (x : Int) : rd (pre ++ x :: t) (pre.length : Int) = x := by
 unfold rd
 simp
theorem good_ok {x : Int} (h : good x = true) : 90528 ≤ x ∧ x ≤ 430515 := by
 simpa [good] using h
theorem atmos_good (x : Int) : atmos_Good.f x = some (good x) := by
 unfold atmos_Good.f good
 by_cases h1 : 90528 ≤ x
 ·
  rw [if_pos (by omega), decide_eq_true h1, Bool.true_and]
 ·
  rw [if_neg (by omega), decide_eq_false h1, Bool.false_and]
theorem sum_bounds (l : List Int) (h : allG l = true) : 90528 * (l.length : Int) ≤ l.sum ∧ l.sum ≤ 430515 * (l.length : Int) := by
 induction l with
 | nil => simp
 | cons x t ih =>
  simp only [allG, List.all_cons, Bool.and_eq_true] at h
  have hx := good_ok h.1
  have ht := ih h.2
  simp only [List.sum_cons, List.length_cons]
  omega
theorem of_loop (x0 : List Int) (hx0 : (x0.length : Int) ≠ 0) (hl : x0.length ≤ 1000000) : ∀ (rest pre : List Int) (acc : Int) (k : Nat), x0 = pre ++ rest → rest.length < k → 0 ≤ acc → acc ≤ 430515 * (pre.length : Int) →
  mean_Of.l0 k x0 acc x0 (x0.length : Int) (pre.length : Int) = some (if allG rest then (Int.tdiv (acc + rest.sum) (x0.length : Int), 0) else (0, 2)) := by
 intro rest
 induction rest with
 | nil =>
  intro pre acc k hx hk h0 h1
  obtain ⟨k, rfl⟩ : ∃ m, k = m + 1 := ⟨k - 1, by omega⟩
  have hlen : x0.length = pre.length := by rw [hx]; simp
  simp only [mean_Of.l0]
  rw [if_neg (by omega), if_neg hx0]
  have hq : wrap64 (Int.tdiv acc (x0.length : Int)) = Int.tdiv acc (x0.length : Int) := by
   have hd : 0 ≤ Int.tdiv acc (x0.length : Int) := Int.tdiv_nonneg h0 (by omega)
   have hd2 : Int.tdiv acc (x0.length : Int) ≤ acc := by
    rw [Int.tdiv_eq_ediv_of_nonneg h0]
    exact Int.ediv_le_self _ h0
   exact w64 (by omega) (by omega)
  rw [hq]
  simp [allG]
 | cons x t ih =>
  intro pre acc k hx hk h0 h1
  obtain ⟨k, rfl⟩ : ∃ m, k = m + 1 := ⟨k - 1, by omega⟩
  have hlen : x0.length = pre.length + (t.length + 1) := by rw [hx]; simp
  have hrd : rd x0 (pre.length : Int) = x := by rw [hx]; exact rd_mid _ _ _
  simp only [mean_Of.l0]
  rw [if_pos (by omega), if_pos (by omega), if_pos (by omega), hrd, atmos_good]
  simp only [Option.bind_some]
  by_cases hg : good x = true
  ·
   have hb := good_ok hg
   rw [if_pos hg, w64 (by omega) (by omega), w64 (by omega) (by omega)]
   have hi := ih (pre ++ [x]) (acc + x) k (by rw [hx]; simp) (by simp only [List.length_cons] at hk; omega) (by omega) (by simp only [List.length_append, List.length_cons, List.length_nil]; omega)
   simp only [List.length_append, List.length_cons, List.length_nil, Nat.zero_add, Int.natCast_add, Int.cast_ofNat_Int] at hi
   rw [hi]
   simp only [allG, List.all_cons, hg, Bool.true_and, List.sum_cons, Int.add_assoc]
  ·
   rw [if_neg hg]
   simp [allG, hg]
theorem mean_f (l : List Int) (hl : l.length ≤ 1000000) (k : Nat) (hk : l.length < k) :
  mean_Of.f k l = some (if l = [] then (0, 4) else if allG l then (l.sum / (l.length : Int), 0) else (0, 2)) := by
 unfold mean_Of.f
 cases l with
 | nil => simp
 | cons x t =>
  rw [if_neg (by simp only [List.length_cons]; omega), if_neg (by simp)]
  have h := of_loop (x :: t) (by simp only [List.length_cons]; omega) hl (x :: t) [] 0 k rfl hk (by omega) (by simp)
  simp only [List.length_nil, Int.cast_ofNat_Int, Int.zero_add] at h
  refine h.trans ?_
  by_cases hg : allG (x :: t) = true
  ·
   rw [if_pos hg, if_pos hg, Int.tdiv_eq_ediv_of_nonneg]
   have := sum_bounds _ hg
   omega
  ·
   rw [if_neg hg, if_neg hg]
end Mo
theorem mean_ex (l : List Int) (h : l.length = 16) : ∃ mn em, mean_Of.f 20 l = some (mn, em) := by
 have h := Mo.mean_f l (by omega) 20 (by omega)
 exact ⟨_, _, h.trans (congrArg some (Prod.ext rfl rfl))⟩
end Go.Proofs.YtpdahkgandaabaaGreatDoor.Ch
namespace Go.Proofs.YtpdahkgandaabaaGreatDoor.Ch
open Go.RowKit Go.Proofs.YtpdahkgandaabaaGreatDoorW.PrintWords Go.Proofs.YtpdahkgandaabaaGreatDoorW.PrintLast Go.Proofs.YtpdahkgandaabaaGreatDoorW.PrintMore Go.Proofs.YtpdahkgandaabaaGreatDoor.PTopNames Go.Proofs.YtpdahkgandaabaaGreatDoor.Al
set_option linter.unusedVariables false
set_option linter.unusedSimpArgs false
set_option maxRecDepth 100000 in
set_option maxHeartbeats 4000000 in
theorem out_tells (x : Int) : ∃ r, Tells 30 #[.int .i64 x] (.int .i64 r) := by
 obtain ⟨oh, ol, uo, ho⟩ := of_tells x
 obtain ⟨hh, hl, hu, hhalf⟩ := half_tells oh ol 24 uo (by decide) (by decide)
 obtain ⟨r, e, hi⟩ := int_tells hh hl
 have HO := am ho
 have HH := am hhalf
 have HI := am hi
 clear ho hhalf hi
 unfold Ch.wide Ch.two at *
 refine ⟨r, fun w hG => ?_⟩
 have HG := am hG
 clear hG
 go_enter Tryz.func30, Tryz.ntmps30
 go_wp2_with fail
 refine (HO.out w HG.out).mono ?_
 rintro e w1 ⟨rfl, hb⟩
 have HB := am hb
 clear hb
 go_wp2_with fail
 refine (HH.out w1 (HG.out.below HB.out)).mono ?_
 rintro e w2 ⟨rfl, hb⟩
 replace HB := am (below_step HB.out hb)
 clear hb
 go_upto_region 2 with fail
 have H3 := am (blk_new w2 (.cells #[.int .i64 hh, .int .u64 hl] 124))
 replace HB := am (below_alloc HB.out (.cells #[.int .i64 hh, .int .u64 hl] 124))
 generalize w2.alloc (.cells #[.int .i64 hh, .int .u64 hl] 124) = w3 at H3 HB ⊢
 generalize w2.heap.size = b at H3 ⊢
 have y0 := bcv H3.out 0 (.int .i64 hh) rfl
 have y1 := bcv H3.out 1 (.int .u64 hl) rfl
 go_wp2_with fail
 refine (HI.out w3 (HG.out.below HB.out)).mono ?_
 rintro e w4 ⟨rfl, hb⟩
 replace HB := am (below_step HB.out hb)
 clear hb y0 y1
 go_wp2_with fail
 go_ret
 exact ⟨rfl, HB.out⟩
def seeksB (m : Int) : Bool := decide (m = 0) || (m == 3)
def validB (m : Int) : Bool := decide (m = 1) || (m == 2)
theorem seeks_f (m si : Int) : mode_Clock_Seeks.f m si = some (seeksB m) := by
 unfold mode_Clock_Seeks.f seeksB
 by_cases h : m = 0 <;> simp [h]
theorem valid_f (m si : Int) : mode_Clock_Valid.f m si = some (validB m) := by
 unfold mode_Clock_Valid.f validB
 by_cases h : m = 1 <;> simp [h]
theorem missed_ex (m si co ou : Int) : ∃ m2 s2, mode_Clock_missed.f m si co ou = some (m2, s2) ∧ (m2 = 1 ∨ m2 = 2 ∨ m2 = 3) := by
 unfold mode_Clock_missed.f
 split
 ·
  exact ⟨_, _, rfl, by simp⟩
 ·
  split
  ·
   exact ⟨_, _, rfl, by simp⟩
  ·
   exact ⟨_, _, rfl, by simp⟩
theorem on_ex (m si ev co ou : Int) : ∃ m2 s2, mode_Clock_On.f 5 m si ev co ou = some (m2, s2) ∧ (m = 0 ∨ m = 1 ∨ m = 2 ∨ m = 3 → m2 = 0 ∨ m2 = 1 ∨ m2 = 2 ∨ m2 = 3) := by
 obtain ⟨a, b, hab, hm⟩ := missed_ex m si co ou
 simp only [mode_Clock_On.f, mode_Clock_On.j0, mode_Clock_On.j1, mode_Clock_On.j2, mode_Clock_On.j3, valid_f, seeks_f, hab, Option.bind_some]
 generalize validB m = v
 generalize seeksB m = k
 cases v <;> cases k <;> simp only [if_true, if_false, Bool.false_eq_true] <;> (repeat' split) <;> first | exact ⟨_, _, rfl, by simp⟩ | exact ⟨_, _, rfl, fun h => h⟩ | exact ⟨_, _, rfl, fun _ => by omega⟩
theorem on_miss {m si co ou : Int} (h : m = 0 ∨ m = 3) : mode_Clock_On.f 5 m si 2 co ou = some (m, si) := by
 rcases h with rfl | rfl <;> rfl
theorem on_enter {m si co ou : Int} (h : m = 0 ∨ m = 3) : mode_Clock_On.f 5 m si 0 co ou = some (1, 0) := by
 rcases h with rfl | rfl <;> rfl
theorem first_all (c : Cf) : ∀ n k, firstOf c n k = 0 → ∀ j, k ≤ j → j < k + n → ruleB c j = true
 | 0, k, _, j, h1, h2 => by omega
 | n + 1, k, h, j, h1, h2 => by
  unfold firstOf at h
  by_cases hr : ruleB c k = true
  ·
   rw [if_pos hr] at h
   rcases Nat.eq_or_lt_of_le h1 with e | hlt
   ·
    rw [← e]; exact hr
   ·
    exact first_all c n (k + 1) h j hlt (by omega)
  ·
   rw [if_neg hr] at h
   omega
theorem rule_kept {c : Cf} (h : checkR c = 0) (j : Nat) (hj : j < 14) : ruleB c j = true := first_all c 14 0 h j (Nat.zero_le _) (by omega)
theorem clip_ok {c : Cf} (h : checkR c = 0) : 1 ≤ c.clip ∧ c.clip ≤ 131072 ∧ -c.clip < c.rest ∧ c.rest < c.clip := by
 have h10 := rule_kept h 10 (by decide)
 simp only [ruleB, within, Bool.and_eq_true, decide_eq_true_eq] at h10
 have hw : wrap64 (-c.clip) = -c.clip := by unfold wrap64; omega
 rw [hw] at h10
 omega
def atClip (c : Cf) (a : Int) : Int := mx (mn a c.clip) (wrap64 (-c.clip))
theorem atClip_in {c : Cf} (h : checkR c = 0) (a : Int) : clipped c (atClip c a) = clipped c a ∧ (clipped c a = false → atClip c a = a) := by
 have hc := clip_ok h
 have hw : wrap64 (-c.clip) = -c.clip := by unfold wrap64; omega
 unfold atClip clipped mx mn
 rw [hw]
 by_cases h1 : c.clip < a
 ·
  rw [if_pos h1, if_neg (by omega)]
  refine ⟨?_, fun hh => ?_⟩
  ·
   simp; omega
  ·
   simp at hh; omega
 ·
  rw [if_neg h1]
  by_cases h2 : a < -c.clip
  ·
   rw [if_pos h2]
   refine ⟨?_, fun hh => ?_⟩
   ·
    simp; omega
   ·
    simp at hh; omega
  ·
   rw [if_neg h2]
   exact ⟨rfl, fun _ => rfl⟩
theorem atClip_same {c : Cf} (h : checkR c = 0) (a last run : Int) : inT c last (atClip c a) = inT c last a ∧ inRun c run (atClip c a) = inRun c run a ∧ inLost c run (atClip c a) = inLost c run a ∧ clipped c (atClip c a) = clipped c a := by
 obtain ⟨h1, h2⟩ := atClip_in h a
 unfold inT inRun inLost
 rw [h1]
 cases hb : clipped c a with
 | true => exact ⟨rfl, rfl, rfl, rfl⟩
 | false => rw [h2 hb]; exact ⟨rfl, rfl, rfl, rfl⟩
theorem brings_f (a p : Int) (has sh : Bool) : baro_Brings.f a has p sh = some (if has && good p then p else 0, has && good p) := by
 unfold baro_Brings.f baro_kind.f
 cases has with
 | false => rfl
 | true =>
  rw [if_pos rfl, Mo.atmos_good]
  cases hg : good p <;> rfl
abbrev T4 := Int × Bool × Int × Bool
def cellsT (t : T4) : List Value := [.int .i64 t.1, .bool t.2.1, .int .i64 t.2.2.1, .bool t.2.2.2]
theorem at_tick {w : World} {A : Option Addr} {n : Nat} {ts : List T4} (h : ReadsRow (fun t c => c = cellsT t) 4 w A n ts) (i : Nat) (hi : i < n) : ∃ ad t, A = some ad ∧ ts[i]? = some t ∧
  w.cell? (ad.add (i * 4)) = some (.int .i64 t.1) ∧ w.cell? ⟨(ad.add (i * 4)).block, (ad.add (i * 4)).off + 1, none⟩ = some (.bool t.2.1) ∧ w.cell? ⟨(ad.add (i * 4)).block, (ad.add (i * 4)).off + 2, none⟩ = some (.int .i64 t.2.2.1) ∧ w.cell? ⟨(ad.add (i * 4)).block, (ad.add (i * 4)).off + 3, none⟩ = some (.bool t.2.2.2) := by
 obtain ⟨h1, h2, h3⟩ := h
 obtain ⟨ad, ha, hat⟩ := h3 (by omega)
 have hlt : i < ts.length := by omega
 obtain ⟨cs, hcl, rfl, hc⟩ := hat i ts[i] (List.getElem?_eq_getElem hlt)
 refine ⟨ad, ts[i], ha, List.getElem?_eq_getElem hlt, ?_, ?_, ?_, ?_⟩
 ·
  exact hc 0 _ rfl
 ·
  rw [← add_field _ _ 1 (by omega)]; exact hc 1 _ rfl
 ·
  rw [← add_field _ _ 2 (by omega)]; exact hc 2 _ rfl
 ·
  rw [← add_field _ _ 3 (by omega)]; exact hc 3 _ rfl
section
variable {w0 W W' : World} {g f gr : Nat} {s : Gs} {c : Cf} {v : Value} {mode since last run band noise rough count : Int} {known : Bool} {l : List Int}
theorem Chan.rebase {w1 : World} (h : Chan w1 W g f gr s c v mode since last run band noise rough count known l) (hb : Below w0.heap.size w0 w1) : Chan w0 W g f gr s c v mode since last run band noise rough count known l :=
 ⟨h.hg, h.hf, ⟨h.hi.1, Nat.le_trans hb.size h.hi.2⟩, Kd.R_lower h.hr hb.size, Nat.le_trans hb.size h.g0, Nat.le_trans hb.size h.f0, below_step hb h.hb⟩
theorem Chan.own_lt (h : Chan w0 W g f gr s c v mode since last run band noise rough count known l) : ∀ k, v.ownBlock = some k → k < W.heap.size := fun k hk => ((Kd.R_bound h.hr).1 k hk).2.2.1
end
structure Apart (g f gr : Nat) (v : Value) (g2 f2 gr2 : Nat) (v2 : Value) : Prop where
 hg : g ≠ g2
 hf : f ≠ f2
 hr : gr ≠ gr2
 hv : ∀ k, v.ownBlock = some k → v2.ownBlock ≠ some k
theorem Apart.symm {g f gr g2 f2 gr2 : Nat} {v v2 : Value} (h : Apart g f gr v g2 f2 gr2 v2) : Apart g2 f2 gr2 v2 g f gr v := ⟨h.hg.symm, h.hf.symm, h.hr.symm, fun k h1 h2 => h.hv k h2 h1⟩
theorem Chan.beside {w0 W W' : World} {g f gr g2 f2 gr2 : Nat} {s s2 : Gs} {c c2 : Cf} {v v2 v' : Value} {mode since last run band noise rough count mode2 since2 last2 run2 band2 noise2 rough2 count2 : Int} {known known2 : Bool} {l l2 : List Int}
  (h : Chan w0 W g f gr s c v mode since last run band noise rough count known l) (h2 : Chan w0 W g2 f2 gr2 s2 c2 v2 mode2 since2 last2 run2 band2 noise2 rough2 count2 known2 l2) (ha : Apart g f gr v g2 f2 gr2 v2)
  (hk : Kept W W' (fun k => k = g ∨ k = f ∨ k = gr ∨ v.ownBlock = some k)) (ho : OwT W v v') (hb : Below w0.heap.size w0 W') :
  Chan w0 W' g2 f2 gr2 s2 c2 v2 mode2 since2 last2 run2 band2 noise2 rough2 count2 known2 l2 ∧ Apart g f gr v' g2 f2 gr2 v2 := by
 have n1 : ¬ (g2 = g ∨ g2 = f ∨ g2 = gr ∨ v.ownBlock = some g2) := fun e => by
  rcases e with e | e | e | e
  ·
   exact ha.hg e.symm
  ·
   exact blk_ne h2.hg h.hf (by decide) e
  ·
   exact (h.hi.ne_blk h2.hg (by decide)) e.symm
  ·
   exact (Kd.R_ne h.hr h2.hg (by decide)) e.symm
 have n2 : ¬ (f2 = g ∨ f2 = f ∨ f2 = gr ∨ v.ownBlock = some f2) := fun e => by
  rcases e with e | e | e | e
  ·
   exact blk_ne h2.hf h.hg (by decide) e
  ·
   exact ha.hf e.symm
  ·
   exact (h.hi.ne_blk h2.hf (by decide)) e.symm
  ·
   exact (Kd.R_ne h.hr h2.hf (by decide)) e.symm
 have n3 : ¬ (gr2 = g ∨ gr2 = f ∨ gr2 = gr ∨ v.ownBlock = some gr2) := fun e => by
  rcases e with e | e | e | e
  ·
   exact (h2.hi.ne_blk h.hg (by decide)) e
  ·
   exact (h2.hi.ne_blk h.hf (by decide)) e
  ·
   exact ha.hr e.symm
  ·
   exact (h2.hi.own_ne h.hr (by decide)) e.symm
 refine ⟨⟨blk_kept h2.hg hk n1, blk_kept h2.hf hk n2, h2.hi.kept hk n3, ?_, h2.g0, h2.f0, hb⟩, ha.hg, ha.hf, ha.hr, fun k h1 h3 => ?_⟩
 ·
  refine Kd.R_mono (Kd.R_kept (Kd.R_tight rfl h2.hr) hk (fun k hk2 e => ?_)) (fun _ _ => trivial)
  rcases e with e | e | e | e
  ·
   exact (Kd.R_ne h2.hr h.hg (by decide)) (e ▸ hk2)
  ·
   exact (Kd.R_ne h2.hr h.hf (by decide)) (e ▸ hk2)
  ·
   exact (h.hi.own_ne h2.hr (by decide)) (e ▸ hk2)
  ·
   exact ha.hv k e hk2.symm
 ·
  rcases ho k h1 with e | e
  ·
   exact ha.hv k e h3
  ·
   have := h2.own_lt k h3
   omega
end Go.Proofs.YtpdahkgandaabaaGreatDoor.Ch
