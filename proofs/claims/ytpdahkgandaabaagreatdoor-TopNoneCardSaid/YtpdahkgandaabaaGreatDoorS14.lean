/- A part of the proof of the law TopNone of the top, where the package's tables hold what their initialisers lay. -/
import Derived.Defers
import Derived.Test.YtpdahkgandaabaaGreatDoorS01
import Derived.Test.YtpdahkgandaabaaGreatDoorS12
namespace Go.Proofs.YtpdahkgandaabaaGreatDoor.Ch
open Go.RowKit Go.Proofs.YtpdahkgandaabaaGreatDoorW.PrintWords Go.Proofs.YtpdahkgandaabaaGreatDoorW.PrintLast Go.Proofs.YtpdahkgandaabaaGreatDoorW.PrintMore Go.Proofs.YtpdahkgandaabaaGreatDoor.PTopNames Go.Proofs.YtpdahkgandaabaaGreatDoor.Al
attribute [local go_sem] max2_int min2_int max_two min_two max_three min_three max_four min_four
set_option linter.unusedVariables false
set_option linter.unusedSimpArgs false
def near (band count : Int) (known : Bool) (c : Int) : Bool := good c && (known && decide (wrap64 (count - c) ≤ band))
set_option maxRecDepth 100000 in
set_option maxHeartbeats 4000000 in
theorem near_any (w0 w : World) (g : Nat) (band noise rough count : Int) (known : Bool) (c : Int) (hI : IsS93 w0 w g band noise rough count known) :
  Calls Tryz.prog 103 #[.pointer (some ⟨g, 0, none⟩), .int .i64 c] w fun e w' => e = .returned (.bool (near band count known c)) ∧ Below w.heap.size w w' := by
 have x0 := cellS93_0 hI.1
 have x3 := cellS93_3 hI.1
 have x4 := cellS93_4 hI.1
 clear hI
 have HB := am (Below.refl w.heap.size w)
 cases hg : good c with
 | false =>
  have hr : near band count known c = false := by simp [near, hg]
  rw [hr]
  clear hr
  go_enter Tryz.func103, Tryz.ntmps103
  go_upto_region 1 with fail
  refine start_ (n := 22) (S := fun w' => w'.cell? ⟨g, 0, none⟩ = some (.int .i64 band) ∧ w'.cell? ⟨g, 3, none⟩ = some (.int .i64 count) ∧ w'.cell? ⟨g, 4, none⟩ = some (.bool known)) (ds := []) (flg 22 0) (by kernel_rfl) rfl rfl ⟨x0, x3, x4⟩ (fun hHeld => ?_)
  refine pure_ (i := 0) (N := (some 5)) (v := ?_) (a' := ?_) (flg 22 1) rfl rfl (by kernel_rfl) (fun _ _ _ h => h) (Or.inl ⟨by rfl, ?_⟩) ?_ ?_
  rotate_left
  ·
   intro w'
   go_simp
   with_reducible rfl
  rotate_left
  ·
   simp only [pw]
   rfl
  refine one_ (i := 1) (N := (some 6)) (flg 22 3) rfl rfl (by kernel_rfl) (by decide) (fun K hK => ?_)
  refine goes_ Tryz.func91 (by kernel_rfl) rfl #[.int .i64 c] (by rfl) rfl rfl (by (try simp only [List.map_toArray, List.map_cons, List.map_nil]); first | done | rfl) ?_
  with_reducible refine (good_is _ c false hg).mono ?_
  rintro e wc ⟨rfl, hb⟩
  replace HB : Aside0 (Below w.heap.size w wc) := ⟨by first | exact below_step HB.out hb | exact below_step (below_drew HB.out) hb⟩
  refine ⟨_, rfl, ?_⟩
  have hSc := hHeld
  clear hHeld
  obtain ⟨s0, s1, s2⟩ := hSc
  refine hK.out _ _ ⟨pw_cell_below hb s0, pw_cell_below hb s1, pw_cell_below hb s2⟩ (fun hHeld => ?_)
  clear hK K hb s0 s1 s2
  refine norm_ (a' := ?_) ?_ ?_
  rotate_left
  ·
   show Act.put _ (some 6) _ = _
   simp only [pw]
   rfl
  refine pure_ (i := 2) (N := (some 7)) (v := ?_) (a' := ?_) (flg 22 7) rfl rfl (by kernel_rfl) (fun _ _ _ h => h) (Or.inl ⟨by rfl, ?_⟩) ?_ ?_
  rotate_left
  ·
   intro w'
   go_simp
   with_reducible rfl
  rotate_left
  ·
   simp only [pw]
   rfl
  refine pure_ (i := 3) (N := (some 8)) (v := undef) (a' := ?_) (flg 22 15) rfl rfl (by kernel_rfl) (fun _ _ _ h => h) (Or.inr ⟨by rfl, rfl⟩) ?_ ?_
  rotate_left
  ·
   simp only [pw]
   rfl
  refine pure_ (i := 4) (N := (some 9)) (v := undef) (a' := ?_) (flg 22 31) rfl rfl (by kernel_rfl) (fun _ _ _ h => h) (Or.inr ⟨by rfl, rfl⟩) ?_ ?_
  rotate_left
  ·
   simp only [pw]
   rfl
  refine pure_ (i := 5) (N := (some 10)) (v := undef) (a' := ?_) (flg 22 63) rfl rfl (by kernel_rfl) (fun _ _ _ h => h) (Or.inr ⟨by rfl, rfl⟩) ?_ ?_
  rotate_left
  ·
   simp only [pw]
   rfl
  refine pure_ (i := 6) (N := (some 11)) (v := undef) (a' := ?_) (flg 22 127) rfl rfl (by kernel_rfl) (fun _ _ _ h => h) (Or.inr ⟨by rfl, rfl⟩) ?_ ?_
  rotate_left
  ·
   simp only [pw]
   rfl
  refine pure_ (i := 7) (N := (some 12)) (v := ?_) (a' := ?_) (flg 22 255) rfl rfl (by kernel_rfl) (fun _ _ _ h => h) (Or.inl ⟨by rfl, ?_⟩) ?_ ?_
  rotate_left
  ·
   intro w'
   go_simp
   with_reducible rfl
  rotate_left
  ·
   simp only [pw]
   rfl
  refine pure_ (i := 8) (N := (some 13)) (v := ?_) (a' := ?_) (flg 22 511) rfl rfl (by kernel_rfl) (fun _ _ _ h => h) (Or.inl ⟨by rfl, ?_⟩) ?_ ?_
  rotate_left
  ·
   intro w'
   go_simp
   with_reducible rfl
  rotate_left
  ·
   simp only [pw]
   rfl
  refine pure_ (i := 9) (N := (some 14)) (v := undef) (a' := ?_) (flg 22 1023) rfl rfl (by kernel_rfl) (fun _ _ _ h => h) (Or.inr ⟨by rfl, rfl⟩) ?_ ?_
  rotate_left
  ·
   simp only [pw]
   rfl
  refine pure_ (i := 10) (N := (some 15)) (v := undef) (a' := ?_) (flg 22 2047) rfl rfl (by kernel_rfl) (fun _ _ _ h => h) (Or.inr ⟨by rfl, rfl⟩) ?_ ?_
  rotate_left
  ·
   simp only [pw]
   rfl
  refine pure_ (i := 11) (N := (some 16)) (v := undef) (a' := ?_) (flg 22 4095) rfl rfl (by kernel_rfl) (fun _ _ _ h => h) (Or.inr ⟨by rfl, rfl⟩) ?_ ?_
  rotate_left
  ·
   simp only [pw]
   rfl
  refine pure_ (i := 12) (N := (some 17)) (v := undef) (a' := ?_) (flg 22 8191) rfl rfl (by kernel_rfl) (fun _ _ _ h => h) (Or.inr ⟨by rfl, rfl⟩) ?_ ?_
  rotate_left
  ·
   simp only [pw]
   rfl
  refine pure_ (i := 13) (N := (some 18)) (v := undef) (a' := ?_) (flg 22 16383) rfl rfl (by kernel_rfl) (fun _ _ _ h => h) (Or.inr ⟨by rfl, rfl⟩) ?_ ?_
  rotate_left
  ·
   simp only [pw]
   rfl
  refine pure_ (i := 14) (N := (some 19)) (v := undef) (a' := ?_) (flg 22 32767) rfl rfl (by kernel_rfl) (fun _ _ _ h => h) (Or.inr ⟨by rfl, rfl⟩) ?_ ?_
  rotate_left
  ·
   simp only [pw]
   rfl
  refine pure_ (i := 15) (N := (some 20)) (v := undef) (a' := ?_) (flg 22 65535) rfl rfl (by kernel_rfl) (fun _ _ _ h => h) (Or.inr ⟨by rfl, rfl⟩) ?_ ?_
  rotate_left
  ·
   simp only [pw]
   rfl
  refine pure_ (i := 16) (N := (some 21)) (v := undef) (a' := ?_) (flg 22 131071) rfl rfl (by kernel_rfl) (fun _ _ _ h => h) (Or.inr ⟨by rfl, rfl⟩) ?_ ?_
  rotate_left
  ·
   simp only [pw]
   rfl
  refine pure_ (i := 17) (N := (some 22)) (v := undef) (a' := ?_) (flg 22 262143) rfl rfl (by kernel_rfl) (fun _ _ _ h => h) (Or.inr ⟨by rfl, rfl⟩) ?_ ?_
  rotate_left
  ·
   simp only [pw]
   rfl
  refine pure_ (i := 18) (N := (some 23)) (v := undef) (a' := ?_) (flg 22 524287) rfl rfl (by kernel_rfl) (fun _ _ _ h => h) (Or.inr ⟨by rfl, rfl⟩) ?_ ?_
  rotate_left
  ·
   simp only [pw]
   rfl
  refine pure_ (i := 19) (N := (some 24)) (v := undef) (a' := ?_) (flg 22 1048575) rfl rfl (by kernel_rfl) (fun _ _ _ h => h) (Or.inr ⟨by rfl, rfl⟩) ?_ ?_
  rotate_left
  ·
   simp only [pw]
   rfl
  refine pure_ (i := 20) (N := (some 25)) (v := ?_) (a' := ?_) (flg 22 2097151) rfl rfl (by kernel_rfl) (fun _ _ _ h => h) (Or.inl ⟨by rfl, ?_⟩) ?_ ?_
  rotate_left
  ·
   intro w'
   go_simp
   with_reducible rfl
  rotate_left
  ·
   simp only [pw]
   rfl
  refine pure_ (i := 21) (N := (some 4)) (v := ?_) (a' := ?_) (flg 22 4194303) rfl rfl (by kernel_rfl) (fun _ _ _ h => h) (Or.inl ⟨by rfl, ?_⟩) ?_ ?_
  rotate_left
  ·
   intro w'
   go_simp
   with_reducible rfl
  rotate_left
  ·
   simp only [pw]
   rfl
  refine done_ (by kernel_rfl) ?_
  go_wp2_with fail
  go_ret
  exact ⟨by simp, HB.out⟩
 | true =>
  cases known with
  | false =>
   have hr : near band count false c = false := by simp [near]
   rw [hr]
   clear hr
   go_enter Tryz.func103, Tryz.ntmps103
   go_upto_region 1 with fail
   refine start_ (n := 22) (S := fun w' => w'.cell? ⟨g, 0, none⟩ = some (.int .i64 band) ∧ w'.cell? ⟨g, 3, none⟩ = some (.int .i64 count) ∧ w'.cell? ⟨g, 4, none⟩ = some (.bool false)) (ds := []) (flg 22 0) (by kernel_rfl) rfl rfl ⟨x0, x3, x4⟩ (fun hHeld => ?_)
   refine pure_ (i := 0) (N := (some 5)) (v := ?_) (a' := ?_) (flg 22 1) rfl rfl (by kernel_rfl) (fun _ _ _ h => h) (Or.inl ⟨by rfl, ?_⟩) ?_ ?_
   rotate_left
   ·
    intro w'
    go_simp
    with_reducible rfl
   rotate_left
   ·
    simp only [pw]
    rfl
   refine one_ (i := 1) (N := (some 6)) (flg 22 3) rfl rfl (by kernel_rfl) (by decide) (fun K hK => ?_)
   refine goes_ Tryz.func91 (by kernel_rfl) rfl #[.int .i64 c] (by rfl) rfl rfl (by (try simp only [List.map_toArray, List.map_cons, List.map_nil]); first | done | rfl) ?_
   with_reducible refine (good_is _ c true hg).mono ?_
   rintro e wc ⟨rfl, hb⟩
   replace HB : Aside0 (Below w.heap.size w wc) := ⟨by first | exact below_step HB.out hb | exact below_step (below_drew HB.out) hb⟩
   refine ⟨_, rfl, ?_⟩
   have hSc := hHeld
   clear hHeld
   obtain ⟨s0, s1, s2⟩ := hSc
   refine hK.out _ _ ⟨pw_cell_below hb s0, pw_cell_below hb s1, pw_cell_below hb s2⟩ (fun hHeld => ?_)
   clear hK K hb s0 s1 s2
   refine norm_ (a' := ?_) ?_ ?_
   rotate_left
   ·
    show Act.put _ (some 6) _ = _
    simp only [pw]
    rfl
   refine pure_ (i := 2) (N := (some 7)) (v := ?_) (a' := ?_) (flg 22 7) rfl rfl (by kernel_rfl) (fun _ _ _ h => h) (Or.inl ⟨by rfl, ?_⟩) ?_ ?_
   rotate_left
   ·
    intro w'
    go_simp
    with_reducible rfl
   rotate_left
   ·
    simp only [pw]
    rfl
   refine pure_ (i := 3) (N := (some 8)) (v := ?_) (a' := ?_) (flg 22 15) rfl rfl (by kernel_rfl) (fun _ _ _ h => h) (Or.inl ⟨by rfl, ?_⟩) ?_ ?_
   rotate_left
   ·
    intro w'
    go_simp
    with_reducible rfl
   rotate_left
   ·
    simp only [pw]
    rfl
   refine pure_ (i := 4) (N := (some 9)) (v := ?_) (a' := ?_) (flg 22 31) rfl rfl (by kernel_rfl) (fun _ _ _ h => h) (Or.inl ⟨by rfl, ?_⟩) ?_ ?_
   rotate_left
   ·
    intro w'
    go_simp
    with_reducible rfl
   rotate_left
   ·
    simp only [pw]
    rfl
   refine pure_ (i := 5) (N := (some 10)) (v := ?_) (a' := ?_) (flg 22 63) rfl rfl (by kernel_rfl) (fun _ _ _ h => h) (Or.inl ⟨by rfl, ?_⟩) ?_ ?_
   rotate_left
   ·
    intro w'
    go_simp
    with_reducible rfl
   rotate_left
   ·
    simp only [pw]
    rfl
   refine take_ (i := 6) (N := (some 11)) (v := ?_) (a' := ?_) (flg 22 127) rfl rfl (by kernel_rfl) (fun _ _ _ h => h) (Or.inl ⟨by rfl, ?_⟩) hHeld ?_ ?_
   rotate_left
   ·
    rintro w' ⟨s0, s1, s2⟩
    go_simp
    with_reducible rfl
   rotate_left
   ·
    simp only [pw]
    rfl
   refine pure_ (i := 7) (N := (some 12)) (v := ?_) (a' := ?_) (flg 22 255) rfl rfl (by kernel_rfl) (fun _ _ _ h => h) (Or.inl ⟨by rfl, ?_⟩) ?_ ?_
   rotate_left
   ·
    intro w'
    go_simp
    with_reducible rfl
   rotate_left
   ·
    simp only [pw]
    rfl
   refine pure_ (i := 8) (N := (some 13)) (v := ?_) (a' := ?_) (flg 22 511) rfl rfl (by kernel_rfl) (fun _ _ _ h => h) (Or.inl ⟨by rfl, ?_⟩) ?_ ?_
   rotate_left
   ·
    intro w'
    go_simp
    with_reducible rfl
   rotate_left
   ·
    simp only [pw]
    rfl
   refine pure_ (i := 9) (N := (some 14)) (v := undef) (a' := ?_) (flg 22 1023) rfl rfl (by kernel_rfl) (fun _ _ _ h => h) (Or.inr ⟨by rfl, rfl⟩) ?_ ?_
   rotate_left
   ·
    simp only [pw]
    rfl
   refine pure_ (i := 10) (N := (some 15)) (v := undef) (a' := ?_) (flg 22 2047) rfl rfl (by kernel_rfl) (fun _ _ _ h => h) (Or.inr ⟨by rfl, rfl⟩) ?_ ?_
   rotate_left
   ·
    simp only [pw]
    rfl
   refine pure_ (i := 11) (N := (some 16)) (v := undef) (a' := ?_) (flg 22 4095) rfl rfl (by kernel_rfl) (fun _ _ _ h => h) (Or.inr ⟨by rfl, rfl⟩) ?_ ?_
   rotate_left
   ·
    simp only [pw]
    rfl
   refine pure_ (i := 12) (N := (some 17)) (v := undef) (a' := ?_) (flg 22 8191) rfl rfl (by kernel_rfl) (fun _ _ _ h => h) (Or.inr ⟨by rfl, rfl⟩) ?_ ?_
   rotate_left
   ·
    simp only [pw]
    rfl
   refine pure_ (i := 13) (N := (some 18)) (v := undef) (a' := ?_) (flg 22 16383) rfl rfl (by kernel_rfl) (fun _ _ _ h => h) (Or.inr ⟨by rfl, rfl⟩) ?_ ?_
   rotate_left
   ·
    simp only [pw]
    rfl
   refine pure_ (i := 14) (N := (some 19)) (v := undef) (a' := ?_) (flg 22 32767) rfl rfl (by kernel_rfl) (fun _ _ _ h => h) (Or.inr ⟨by rfl, rfl⟩) ?_ ?_
   rotate_left
   ·
    simp only [pw]
    rfl
   refine pure_ (i := 15) (N := (some 20)) (v := undef) (a' := ?_) (flg 22 65535) rfl rfl (by kernel_rfl) (fun _ _ _ h => h) (Or.inr ⟨by rfl, rfl⟩) ?_ ?_
   rotate_left
   ·
    simp only [pw]
    rfl
   refine pure_ (i := 16) (N := (some 21)) (v := undef) (a' := ?_) (flg 22 131071) rfl rfl (by kernel_rfl) (fun _ _ _ h => h) (Or.inr ⟨by rfl, rfl⟩) ?_ ?_
   rotate_left
   ·
    simp only [pw]
    rfl
   refine pure_ (i := 17) (N := (some 22)) (v := undef) (a' := ?_) (flg 22 262143) rfl rfl (by kernel_rfl) (fun _ _ _ h => h) (Or.inr ⟨by rfl, rfl⟩) ?_ ?_
   rotate_left
   ·
    simp only [pw]
    rfl
   refine pure_ (i := 18) (N := (some 23)) (v := undef) (a' := ?_) (flg 22 524287) rfl rfl (by kernel_rfl) (fun _ _ _ h => h) (Or.inr ⟨by rfl, rfl⟩) ?_ ?_
   rotate_left
   ·
    simp only [pw]
    rfl
   refine pure_ (i := 19) (N := (some 24)) (v := undef) (a' := ?_) (flg 22 1048575) rfl rfl (by kernel_rfl) (fun _ _ _ h => h) (Or.inr ⟨by rfl, rfl⟩) ?_ ?_
   rotate_left
   ·
    simp only [pw]
    rfl
   refine pure_ (i := 20) (N := (some 25)) (v := ?_) (a' := ?_) (flg 22 2097151) rfl rfl (by kernel_rfl) (fun _ _ _ h => h) (Or.inl ⟨by rfl, ?_⟩) ?_ ?_
   rotate_left
   ·
    intro w'
    go_simp
    with_reducible rfl
   rotate_left
   ·
    simp only [pw]
    rfl
   refine pure_ (i := 21) (N := (some 4)) (v := ?_) (a' := ?_) (flg 22 4194303) rfl rfl (by kernel_rfl) (fun _ _ _ h => h) (Or.inl ⟨by rfl, ?_⟩) ?_ ?_
   rotate_left
   ·
    intro w'
    go_simp
    with_reducible rfl
   rotate_left
   ·
    simp only [pw]
    rfl
   refine done_ (by kernel_rfl) ?_
   go_wp2_with fail
   go_ret
   exact ⟨by simp, HB.out⟩
  | true =>
   have hr : near band count true c = decide (wrap64 (count - c) ≤ band) := by simp [near, hg]
   rw [hr]
   clear hr
   go_enter Tryz.func103, Tryz.ntmps103
   go_upto_region 1 with fail
   refine start_ (n := 22) (S := fun w' => w'.cell? ⟨g, 0, none⟩ = some (.int .i64 band) ∧ w'.cell? ⟨g, 3, none⟩ = some (.int .i64 count) ∧ w'.cell? ⟨g, 4, none⟩ = some (.bool true)) (ds := []) (flg 22 0) (by kernel_rfl) rfl rfl ⟨x0, x3, x4⟩ (fun hHeld => ?_)
   refine pure_ (i := 0) (N := (some 5)) (v := ?_) (a' := ?_) (flg 22 1) rfl rfl (by kernel_rfl) (fun _ _ _ h => h) (Or.inl ⟨by rfl, ?_⟩) ?_ ?_
   rotate_left
   ·
    intro w'
    go_simp
    with_reducible rfl
   rotate_left
   ·
    simp only [pw]
    rfl
   refine one_ (i := 1) (N := (some 6)) (flg 22 3) rfl rfl (by kernel_rfl) (by decide) (fun K hK => ?_)
   refine goes_ Tryz.func91 (by kernel_rfl) rfl #[.int .i64 c] (by rfl) rfl rfl (by (try simp only [List.map_toArray, List.map_cons, List.map_nil]); first | done | rfl) ?_
   with_reducible refine (good_is _ c true hg).mono ?_
   rintro e wc ⟨rfl, hb⟩
   replace HB : Aside0 (Below w.heap.size w wc) := ⟨by first | exact below_step HB.out hb | exact below_step (below_drew HB.out) hb⟩
   refine ⟨_, rfl, ?_⟩
   have hSc := hHeld
   clear hHeld
   obtain ⟨s0, s1, s2⟩ := hSc
   refine hK.out _ _ ⟨pw_cell_below hb s0, pw_cell_below hb s1, pw_cell_below hb s2⟩ (fun hHeld => ?_)
   clear hK K hb s0 s1 s2
   refine norm_ (a' := ?_) ?_ ?_
   rotate_left
   ·
    show Act.put _ (some 6) _ = _
    simp only [pw]
    rfl
   refine pure_ (i := 2) (N := (some 7)) (v := ?_) (a' := ?_) (flg 22 7) rfl rfl (by kernel_rfl) (fun _ _ _ h => h) (Or.inl ⟨by rfl, ?_⟩) ?_ ?_
   rotate_left
   ·
    intro w'
    go_simp
    with_reducible rfl
   rotate_left
   ·
    simp only [pw]
    rfl
   refine pure_ (i := 3) (N := (some 8)) (v := ?_) (a' := ?_) (flg 22 15) rfl rfl (by kernel_rfl) (fun _ _ _ h => h) (Or.inl ⟨by rfl, ?_⟩) ?_ ?_
   rotate_left
   ·
    intro w'
    go_simp
    with_reducible rfl
   rotate_left
   ·
    simp only [pw]
    rfl
   refine pure_ (i := 4) (N := (some 9)) (v := ?_) (a' := ?_) (flg 22 31) rfl rfl (by kernel_rfl) (fun _ _ _ h => h) (Or.inl ⟨by rfl, ?_⟩) ?_ ?_
   rotate_left
   ·
    intro w'
    go_simp
    with_reducible rfl
   rotate_left
   ·
    simp only [pw]
    rfl
   refine pure_ (i := 5) (N := (some 10)) (v := ?_) (a' := ?_) (flg 22 63) rfl rfl (by kernel_rfl) (fun _ _ _ h => h) (Or.inl ⟨by rfl, ?_⟩) ?_ ?_
   rotate_left
   ·
    intro w'
    go_simp
    with_reducible rfl
   rotate_left
   ·
    simp only [pw]
    rfl
   refine take_ (i := 6) (N := (some 11)) (v := ?_) (a' := ?_) (flg 22 127) rfl rfl (by kernel_rfl) (fun _ _ _ h => h) (Or.inl ⟨by rfl, ?_⟩) hHeld ?_ ?_
   rotate_left
   ·
    rintro w' ⟨s0, s1, s2⟩
    go_simp
    with_reducible rfl
   rotate_left
   ·
    simp only [pw]
    rfl
   refine pure_ (i := 7) (N := (some 12)) (v := ?_) (a' := ?_) (flg 22 255) rfl rfl (by kernel_rfl) (fun _ _ _ h => h) (Or.inl ⟨by rfl, ?_⟩) ?_ ?_
   rotate_left
   ·
    intro w'
    go_simp
    with_reducible rfl
   rotate_left
   ·
    simp only [pw]
    rfl
   refine pure_ (i := 8) (N := (some 13)) (v := ?_) (a' := ?_) (flg 22 511) rfl rfl (by kernel_rfl) (fun _ _ _ h => h) (Or.inl ⟨by rfl, ?_⟩) ?_ ?_
   rotate_left
   ·
    intro w'
    go_simp
    with_reducible rfl
   rotate_left
   ·
    simp only [pw]
    rfl
   refine pure_ (i := 9) (N := (some 14)) (v := ?_) (a' := ?_) (flg 22 1023) rfl rfl (by kernel_rfl) (fun _ _ _ h => h) (Or.inl ⟨by rfl, ?_⟩) ?_ ?_
   rotate_left
   ·
    intro w'
    go_simp
    with_reducible rfl
   rotate_left
   ·
    simp only [pw]
    rfl
   refine pure_ (i := 10) (N := (some 15)) (v := ?_) (a' := ?_) (flg 22 2047) rfl rfl (by kernel_rfl) (fun _ _ _ h => h) (Or.inl ⟨by rfl, ?_⟩) ?_ ?_
   rotate_left
   ·
    intro w'
    go_simp
    with_reducible rfl
   rotate_left
   ·
    simp only [pw]
    rfl
   refine pure_ (i := 11) (N := (some 16)) (v := ?_) (a' := ?_) (flg 22 4095) rfl rfl (by kernel_rfl) (fun _ _ _ h => h) (Or.inl ⟨by rfl, ?_⟩) ?_ ?_
   rotate_left
   ·
    intro w'
    go_simp
    with_reducible rfl
   rotate_left
   ·
    simp only [pw]
    rfl
   refine take_ (i := 12) (N := (some 17)) (v := ?_) (a' := ?_) (flg 22 8191) rfl rfl (by kernel_rfl) (fun _ _ _ h => h) (Or.inl ⟨by rfl, ?_⟩) hHeld ?_ ?_
   rotate_left
   ·
    rintro w' ⟨s0, s1, s2⟩
    go_simp
    with_reducible rfl
   rotate_left
   ·
    simp only [pw]
    rfl
   refine pure_ (i := 13) (N := (some 18)) (v := ?_) (a' := ?_) (flg 22 16383) rfl rfl (by kernel_rfl) (fun _ _ _ h => h) (Or.inl ⟨by rfl, ?_⟩) ?_ ?_
   rotate_left
   ·
    intro w'
    go_simp
    with_reducible rfl
   rotate_left
   ·
    simp only [pw]
    rfl
   refine pure_ (i := 14) (N := (some 19)) (v := ?_) (a' := ?_) (flg 22 32767) rfl rfl (by kernel_rfl) (fun _ _ _ h => h) (Or.inl ⟨by rfl, ?_⟩) ?_ ?_
   rotate_left
   ·
    intro w'
    go_simp
    with_reducible rfl
   rotate_left
   ·
    simp only [pw]
    rfl
   refine pure_ (i := 15) (N := (some 20)) (v := ?_) (a' := ?_) (flg 22 65535) rfl rfl (by kernel_rfl) (fun _ _ _ h => h) (Or.inl ⟨by rfl, ?_⟩) ?_ ?_
   rotate_left
   ·
    intro w'
    go_simp
    with_reducible rfl
   rotate_left
   ·
    simp only [pw]
    rfl
   refine pure_ (i := 16) (N := (some 21)) (v := ?_) (a' := ?_) (flg 22 131071) rfl rfl (by kernel_rfl) (fun _ _ _ h => h) (Or.inl ⟨by rfl, ?_⟩) ?_ ?_
   rotate_left
   ·
    intro w'
    go_simp
    with_reducible rfl
   rotate_left
   ·
    simp only [pw]
    rfl
   refine pure_ (i := 17) (N := (some 22)) (v := ?_) (a' := ?_) (flg 22 262143) rfl rfl (by kernel_rfl) (fun _ _ _ h => h) (Or.inl ⟨by rfl, ?_⟩) ?_ ?_
   rotate_left
   ·
    intro w'
    go_simp
    with_reducible rfl
   rotate_left
   ·
    simp only [pw]
    rfl
   refine take_ (i := 18) (N := (some 23)) (v := ?_) (a' := ?_) (flg 22 524287) rfl rfl (by kernel_rfl) (fun _ _ _ h => h) (Or.inl ⟨by rfl, ?_⟩) hHeld ?_ ?_
   rotate_left
   ·
    rintro w' ⟨s0, s1, s2⟩
    go_simp
    with_reducible rfl
   rotate_left
   ·
    simp only [pw]
    rfl
   refine pure_ (i := 19) (N := (some 24)) (v := ?_) (a' := ?_) (flg 22 1048575) rfl rfl (by kernel_rfl) (fun _ _ _ h => h) (Or.inl ⟨by rfl, ?_⟩) ?_ ?_
   rotate_left
   ·
    intro w'
    go_simp
    with_reducible rfl
   rotate_left
   ·
    simp only [pw]
    rfl
   refine pure_ (i := 20) (N := (some 25)) (v := ?_) (a' := ?_) (flg 22 2097151) rfl rfl (by kernel_rfl) (fun _ _ _ h => h) (Or.inl ⟨by rfl, ?_⟩) ?_ ?_
   rotate_left
   ·
    intro w'
    go_simp
    with_reducible rfl
   rotate_left
   ·
    simp only [pw]
    rfl
   refine pure_ (i := 21) (N := (some 4)) (v := ?_) (a' := ?_) (flg 22 4194303) rfl rfl (by kernel_rfl) (fun _ _ _ h => h) (Or.inl ⟨by rfl, ?_⟩) ?_ ?_
   rotate_left
   ·
    intro w'
    go_simp
    with_reducible rfl
   rotate_left
   ·
    simp only [pw]
    rfl
   refine done_ (by kernel_rfl) ?_
   go_wp2_with fail
   go_ret
   exact ⟨by simp, HB.out⟩
def altv (c : Int) : Int := if good c then alt c else 0
set_option maxRecDepth 100000 in
set_option maxHeartbeats 4000000 in
theorem level1_any (w0 wb w : World) (u : FrameMode) (bn bg ba bz g : Nat) (band noise rough count z zn : Int) (known nr : Bool)
  (hn : w.heap[bn]? = some (.cells #[.bool nr] 4 (0, 0))) (hg : w.heap[bg]? = some (.cells #[.pointer (some ⟨g, 0, none⟩)] 52 (0, 0)))
  (ha : w.heap[ba]? = some (.cells #[.int .i64 z] 2 (0, 0))) (hz : w.heap[bz]? = some (.cells #[.int .i64 zn] 2 (0, 0)))
  (hI : IsS93 w0 w g band noise rough count known) (hT : Tab w) (hne : ba ≠ bz) (hba : wb.heap.size ≤ ba) (hbz : wb.heap.size ≤ bz) (hB : Below wb.heap.size wb w) :
  CallsD Tryz.prog 104 #[.pointer (some ⟨bn, 0, none⟩), .pointer (some ⟨bg, 0, none⟩), .pointer (some ⟨ba, 0, none⟩), .pointer (some ⟨bz, 0, none⟩)] u w fun e u' w' => u' = u ∧ (e = .returned (.tuple #[]) ∧
   w'.heap[ba]? = some (.cells #[.int .i64 (if nr then mx z (altv count) else z)] 2 (0, 0)) ∧ w'.heap[bz]? = some (.cells #[.int .i64 (if nr then rough else zn)] 2 (0, 0)) ∧
   w'.heap[bn]? = some (.cells #[.bool nr] 4 (0, 0)) ∧ Below wb.heap.size wb w') := by
 have HI := am hI
 have HB := am hB
 have HN := am hn
 have HG := am hg
 have HA := am ha
 have HZ := am hz
 have HT := am hT
 have nb : bn ≠ ba := by rintro rfl; rw [hn] at ha; simp at ha
 have nz : bn ≠ bz := by rintro rfl; rw [hn] at hz; simp at hz
 have x0 := (blk_cell hn 0).trans rfl
 clear hn hg ha hz hI hB hT
 cases nr with
 | false =>
  go_enter_d Tryz.func104, Tryz.ntmps104
  go_wp2_with fail
  go_end0
  exact ⟨rfl, HA.out, HZ.out, HN.out, HB.out⟩
 | true =>
  have x1 := (blk_cell HG.out 0).trans rfl
  have x2 := cellS93_3 HI.out.1
  go_enter_d Tryz.func104, Tryz.ntmps104
  go_wp2_with fail
  refine (alt_any w count HT.out).mono ?_
  rintro e w1 ⟨rfl, hb⟩
  replace HI := am (HI.out.below hb)
  replace HN := am (blk_below HN.out hb)
  replace HG := am (blk_below HG.out hb)
  replace HA := am (blk_below HA.out hb)
  replace HZ := am (blk_below HZ.out hb)
  replace HB := am (below_step HB.out hb)
  clear x0 x1 x2 hb
  rw [show (if good count then alt count else 0) = altv count from rfl]
  obtain ⟨low, hlow⟩ : ∃ low, low = altv count := ⟨_, rfl⟩
  rw [← hlow]
  have HL := am hlow
  clear hlow
  have x1 := (blk_cell HG.out 0).trans rfl
  have x2 := (blk_cell HA.out 0).trans rfl
  have x3 := cellS93_2 HI.out.1
  have x4 := (blk_cell HZ.out 0).trans rfl
  have f2 := bfz HA.out 0
  have f4 := bfz HZ.out 0
  go_upto_region 2 with fail
  go_region
  go_end0
  rw [← HL.out]
  refine ⟨rfl, ?_, ?_, ?_, ?_⟩
  ·
   exact blk_drew (by simpa [mx] using blk_far (blk_set HA.out 0 (.int .i64 (if z < low then low else z))) hne (.int .i64 rough))
  ·
   exact blk_drew (by simpa using blk_set (blk_far HZ.out (Ne.symm hne) (.int .i64 (if z < low then low else z))) 0 (.int .i64 rough))
  ·
   exact blk_drew (blk_far (blk_far HN.out nb _) nz _)
  ·
   exact below_drew ((HB.out.setCell (p := ⟨ba, 0, none⟩) hba _).setCell (p := ⟨bz, 0, none⟩) hbz _)
def levelR (band noise rough count : Int) (known : Bool) (c : Int) : Value :=
 .tuple #[.int .i64 (if good c then (if near band count known c then mx (alt c) (altv count) else alt c) else 0), .int .i64 (if good c then (if near band count known c then rough else noise) else 0),
  .bool (near band count known c), .int .i64 (if good c then 0 else 2)]
theorem wp_calm {P : Program} {c : Code} {Q : Exit → Act → World → Prop} {a : Act} {w : World} (h : c.wp P (fun e a w => match e with | .panic _ => False | e => Q e a w) a w) : c.wp P Q a w :=
 Code.wp_mono (fun e a w h => by cases e <;> first | exact h | exact h.elim) h
theorem size_alloc (w : World) (o : Obj) : (w.alloc o).heap.size = w.heap.size + 1 := by
 unfold World.alloc
 exact Array.size_push _
theorem altL_no (w : World) (c : Int) (hT : Tab w) (h : good c = false) :
  Calls Tryz.prog 65 #[.int .i64 c] w fun e w' => e = .returned (.tuple #[.int .i64 0, .int .i64 2]) ∧ Below w.heap.size w w' := by
 have := alt_any w c hT
 simp only [h, Bool.false_eq_true, if_false] at this
 exact this
theorem altL_yes (w : World) (c : Int) (hT : Tab w) (h : good c = true) :
  Calls Tryz.prog 65 #[.int .i64 c] w fun e w' => e = .returned (.tuple #[.int .i64 (alt c), .int .i64 0]) ∧ Below w.heap.size w w' := by
 have := alt_any w c hT
 simp only [h, if_true] at this
 exact this
set_option maxRecDepth 100000 in
set_option maxHeartbeats 4000000 in
theorem level_any (w0 w : World) (g : Nat) (band noise rough count : Int) (known : Bool) (c : Int) (hI : IsS93 w0 w g band noise rough count known) (hT : Tab w) :
  Calls Tryz.prog 71 #[.pointer (some ⟨g, 0, none⟩), .int .i64 c] w fun e w' => e = .returned (levelR band noise rough count known c) ∧ Below w.heap.size w w' := by
 have HI := am hI
 have HT := am hT
 have HT0 := am hT
 have hmk := mk_func
 clear hI hT
 go_enter_defers Tryz.func71, Tryz.ntmps71
 go_wp2_with fail
 obtain ⟨n, hn⟩ : ∃ n, n = w.heap.size := ⟨_, rfl⟩
 have X2 := blk_new w (.cells #[.pointer (some ⟨g, 0, none⟩)] 52)
 have L1 := below_alloc (Below.refl w.heap.size w) (.cells #[.pointer (some ⟨g, 0, none⟩)] 52)
 have s1 : (w.alloc (.cells #[.pointer (some ⟨g, 0, none⟩)] 52)).heap.size = w.heap.size + 1 := size_alloc _ _
 rw [← hn] at X2 s1 ⊢
 generalize w.alloc (.cells #[.pointer (some ⟨g, 0, none⟩)] 52) = w1 at X2 L1 s1 ⊢
 have X4 := blk_new w1 (.cells #[.int .i64 0] 2)
 replace X2 := blk_alloc X2 (.cells #[.int .i64 0] 2)
 replace L1 := below_alloc L1 (.cells #[.int .i64 0] 2)
 have s2 : (w1.alloc (.cells #[.int .i64 0] 2)).heap.size = n + 1 + 1 := (size_alloc _ _).trans (by rw [s1])
 rw [s1] at X4
 generalize w1.alloc (.cells #[.int .i64 0] 2) = w2 at X2 X4 L1 s2 ⊢
 clear s1
 have X5 := blk_new w2 (.cells #[.int .i64 0] 2)
 replace X2 := blk_alloc X2 (.cells #[.int .i64 0] 2)
 replace X4 := blk_alloc X4 (.cells #[.int .i64 0] 2)
 replace L1 := below_alloc L1 (.cells #[.int .i64 0] 2)
 have s3 : (w2.alloc (.cells #[.int .i64 0] 2)).heap.size = n + 1 + 1 + 1 := (size_alloc _ _).trans (by rw [s2])
 rw [s2] at X5
 generalize w2.alloc (.cells #[.int .i64 0] 2) = w3 at X2 X4 X5 L1 s3 ⊢
 clear s2
 have X6 := blk_new w3 (.cells #[.bool false] 4)
 replace X2 := blk_alloc X2 (.cells #[.bool false] 4)
 replace X4 := blk_alloc X4 (.cells #[.bool false] 4)
 replace X5 := blk_alloc X5 (.cells #[.bool false] 4)
 replace L1 := below_alloc L1 (.cells #[.bool false] 4)
 rw [s3] at X6
 generalize w3.alloc (.cells #[.bool false] 4) = w4 at X2 X4 X5 X6 L1 ⊢
 clear s3
 replace HI := am (HI.out.below L1)
 replace HT := am (HT.out.below L1)
 obtain ⟨b4, h4⟩ : ∃ b, b = n + 1 := ⟨_, rfl⟩
 obtain ⟨b5, h5⟩ : ∃ b, b = n + 1 + 1 := ⟨_, rfl⟩
 obtain ⟨b6, h6⟩ : ∃ b, b = n + 1 + 1 + 1 := ⟨_, rfl⟩
 rw [← h6, ← h5, ← h4]
 rw [← h6] at X6
 rw [← h5] at X5
 rw [← h4] at X4
 have d45 : b4 ≠ b5 := by omega
 have d46 : b4 ≠ b6 := by omega
 have d56 : b5 ≠ b6 := by omega
 have d24 : n ≠ b4 := by omega
 have d25 : n ≠ b5 := by omega
 have d26 : n ≠ b6 := by omega
 have g4 : w.heap.size ≤ b4 := by omega
 have g5 : w.heap.size ≤ b5 := by omega
 have g6 : w.heap.size ≤ b6 := by omega
 clear hn h4 h5 h6
 cases hg : good c with
 | false =>
  refine (altL_no w4 c HT.out hg).mono ?_
  rintro e w5 ⟨rfl, hb⟩
  replace HI := am (HI.out.below hb)
  replace HT := am (HT.out.below hb)
  replace X2 := blk_below X2 hb
  replace X4 := blk_below X4 hb
  replace X5 := blk_below X5 hb
  replace X6 := blk_below X6 hb
  replace L1 := below_step L1 hb
  have HB := am L1
  clear hb L1
  have HX2 := am X2
  have HX4 := am X4
  have HX5 := am X5
  have HX6 := am X6
  have c4 := bcv X4 0 (.int .i64 0) rfl
  have c5 := bcv X5 0 (.int .i64 0) rfl
  have c6 := bcv X6 0 (.bool false) rfl
  have f4 := bfz X4 0
  have f5 := bfz X5 0
  have f6 := bfz X6 0
  clear X2 X4 X5 X6
  have hV : levelR band noise rough count known c = .tuple #[.int .i64 0, .int .i64 0, .bool false, .int .i64 2] := by simp [levelR, near, hg]
  have HV := am hV
  clear hV
  have z2 : ((2 : Int) != 0) = true := rfl
  go_wp2_with fail
  all_goals
   have q4 := blk_far (blk_far (blk_set (blk_set HX4.out 0 (.int .i64 0)) 0 (.int .i64 0)) (p := ⟨b5, 0, none⟩) d45 (.int .i64 0)) (p := ⟨b6, 0, none⟩) d46 (.bool false)
   have q5 := blk_far (blk_set (blk_far (blk_far HX5.out (p := ⟨b4, 0, none⟩) (Ne.symm d45) (.int .i64 0)) (p := ⟨b4, 0, none⟩) (Ne.symm d45) (.int .i64 0)) 0 (.int .i64 0)) (p := ⟨b6, 0, none⟩) d56 (.bool false)
   have q6 := blk_set (blk_far (blk_far (blk_far HX6.out (p := ⟨b4, 0, none⟩) (Ne.symm d46) (.int .i64 0)) (p := ⟨b4, 0, none⟩) (Ne.symm d46) (.int .i64 0)) (p := ⟨b5, 0, none⟩) (Ne.symm d56) (.int .i64 0)) 0 (.bool false)
   have qB := (((HB.out.setCell (p := ⟨b4, 0, none⟩) g4 (.int .i64 0)).setCell (p := ⟨b4, 0, none⟩) g4 (.int .i64 0)).setCell (p := ⟨b5, 0, none⟩) g5 (.int .i64 0)).setCell (p := ⟨b6, 0, none⟩) g6 (.bool false)
   generalize ((((w5.setCell ⟨b4, 0, none⟩ (.int .i64 0)).setCell ⟨b4, 0, none⟩ (.int .i64 0)).setCell ⟨b5, 0, none⟩ (.int .i64 0)).setCell ⟨b6, 0, none⟩ (.bool false)) = W at q4 q5 q6 qB ⊢
   have r4 := bcv q4 0 (.int .i64 0) rfl
   have r5 := bcv q5 0 (.int .i64 0) rfl
   have r6 := bcv q6 0 (.bool false) rfl
   clear q4 q5 q6 c4 c5 c6 f4 f5 f6
   refine ⟨.tuple #[.int .i64 0, .int .i64 0, .bool false, .int .i64 2], ?_, congrArg Ending.returned HV.out.symm, qB⟩
   simp [results, Tryz.results71, go_sem, r4, r5, r6]
 | true =>
  have hV : levelR band noise rough count known c = .tuple #[.int .i64 (if near band count known c then mx (alt c) (altv count) else alt c), .int .i64 (if near band count known c then rough else noise), .bool (near band count known c), .int .i64 0] := by simp [levelR, hg]
  have HV := am hV
  clear hV
  refine (altL_yes w4 c HT.out hg).mono ?_
  rintro e w5 ⟨rfl, hb⟩
  replace HI := am (HI.out.below hb)
  replace HT := am (HT.out.below hb)
  replace X2 := blk_below X2 hb
  replace X4 := blk_below X4 hb
  replace X5 := blk_below X5 hb
  replace X6 := blk_below X6 hb
  replace L1 := below_step L1 hb
  have HB := am L1
  clear hb L1
  have HX2 := am X2
  have HX4 := am X4
  have HX5 := am X5
  have HX6 := am X6
  have c4 := bcv X4 0 (.int .i64 0) rfl
  have c5 := bcv X5 0 (.int .i64 0) rfl
  have c6 := bcv X6 0 (.bool false) rfl
  have f4 := bfz X4 0
  have f5 := bfz X5 0
  have f6 := bfz X6 0
  clear X2 X4 X5 X6
  have hne5 : g ≠ b5 := HI.out.ne_blk HX5.out (by decide)
  have hne6 : g ≠ b6 := HI.out.ne_blk HX6.out (by decide)
  have hne4 : g ≠ b4 := HI.out.ne_blk HX4.out (by decide)
  go_upto_region 4 with fail
  replace HX2 := am (blk_far HX2.out (p := ⟨b4, 0, none⟩) d24 (.int .i64 (alt c)))
  replace HX4 := am (blk_set HX4.out 0 (.int .i64 (alt c)))
  replace HX5 := am (blk_far HX5.out (p := ⟨b4, 0, none⟩) (Ne.symm d45) (.int .i64 (alt c)))
  replace HX6 := am (blk_far HX6.out (p := ⟨b4, 0, none⟩) (Ne.symm d46) (.int .i64 (alt c)))
  replace HI := am (IsS93.far HI.out (p := ⟨b4, 0, none⟩) hne4 (.int .i64 (alt c)))
  replace HB := am (HB.out.setCell (p := ⟨b4, 0, none⟩) g4 (.int .i64 (alt c)))
  clear c4 c5 c6 f4 f5 f6 HT
  generalize w5.setCell ⟨b4, 0, none⟩ (.int .i64 (alt c)) = w6 at HX2 HX4 HX5 HX6 HI HB ⊢
  obtain ⟨nr, hnr⟩ : ∃ nr, nr = near band count known c := ⟨_, rfl⟩
  obtain ⟨z, hz⟩ : ∃ z, z = alt c := ⟨_, rfl⟩
  rw [← hz] at HX4 ⊢
  have HNR := am hnr
  have HZZ := am hz
  clear hnr hz
  refine wp_calm ?_
  refine start_ (n := 9) (S := fun w' => w'.cell? ⟨n, 0, none⟩ = some (.pointer (some ⟨g, 0, none⟩)) ∧ w'.cell? ⟨g, 1, none⟩ = some (.int .i64 noise)) (ds := []) (flg 9 0) (by kernel_rfl) rfl rfl ⟨(blk_cell HX2.out 0).trans rfl, cellS93_1 HI.out.1⟩ (fun hHeld => ?_)
  replace HX2 := am (blk_drew HX2.out)
  replace HX4 := am (blk_drew HX4.out)
  replace HX5 := am (blk_drew HX5.out)
  replace HX6 := am (blk_drew HX6.out)
  replace HI := am (IsS93.drew HI.out)
  replace HB := am (below_drew HB.out)
  generalize w6.drew = w7 at HX2 HX4 HX5 HX6 HI HB hHeld ⊢
  refine take_ (i := 0) (N := (some 16)) (v := ?_) (a' := ?_) (flg 9 1) rfl rfl (by kernel_rfl) (fun _ _ _ h => h) (Or.inl ⟨by rfl, ?_⟩) hHeld ?_ ?_
  rotate_left
  ·
   rintro w' ⟨s0, s1⟩
   go_simp
   with_reducible rfl
  rotate_left
  ·
   simp only [pw]
   rfl
  refine pure_ (i := 1) (N := (some 17)) (v := ?_) (a' := ?_) (flg 9 3) rfl rfl (by kernel_rfl) (fun _ _ _ h => h) (Or.inl ⟨by rfl, ?_⟩) ?_ ?_
  rotate_left
  ·
   intro w'
   go_simp
   with_reducible rfl
  rotate_left
  ·
   simp only [pw]
   rfl
  refine pure_ (i := 2) (N := (some 18)) (v := ?_) (a' := ?_) (flg 9 7) rfl rfl (by kernel_rfl) (fun _ _ _ h => h) (Or.inl ⟨by rfl, ?_⟩) ?_ ?_
  rotate_left
  ·
   intro w'
   go_simp
   with_reducible rfl
  rotate_left
  ·
   simp only [pw]
   rfl
  refine take_ (i := 3) (N := (some 19)) (v := ?_) (a' := ?_) (flg 9 15) rfl rfl (by kernel_rfl) (fun _ _ _ h => h) (Or.inl ⟨by rfl, ?_⟩) hHeld ?_ ?_
  rotate_left
  ·
   rintro w' ⟨s0, s1⟩
   go_simp
   with_reducible rfl
  rotate_left
  ·
   simp only [pw]
   rfl
  refine take_ (i := 4) (N := (some 20)) (v := ?_) (a' := ?_) (flg 9 31) rfl rfl (by kernel_rfl) (fun _ _ _ h => h) (Or.inl ⟨by rfl, ?_⟩) hHeld ?_ ?_
  rotate_left
  ·
   rintro w' ⟨s0, s1⟩
   go_simp
   with_reducible rfl
  rotate_left
  ·
   simp only [pw]
   rfl
  refine pure_ (i := 5) (N := (some 21)) (v := ?_) (a' := ?_) (flg 9 63) rfl rfl (by kernel_rfl) (fun _ _ _ h => h) (Or.inl ⟨by rfl, ?_⟩) ?_ ?_
  rotate_left
  ·
   intro w'
   go_simp
   with_reducible rfl
  rotate_left
  ·
   simp only [pw]
   rfl
  refine one_ (i := 6) (N := (some 22)) (flg 9 127) rfl rfl (by kernel_rfl) (by decide) (fun K hK => ?_)
  refine goes_ Tryz.func103 (by kernel_rfl) rfl #[.pointer (some ⟨g, 0, none⟩), .int .i64 c] (by rfl) rfl rfl (by (try simp only [List.map_toArray, List.map_cons, List.map_nil]); first | done | rfl) ?_
  refine (near_any w0 w7 g band noise rough count known c HI.out).mono ?_
  rw [← HNR.out]
  rintro e w8 ⟨rfl, hb⟩
  replace HX2 := am (blk_below HX2.out hb)
  replace HX4 := am (blk_below HX4.out hb)
  replace HX5 := am (blk_below HX5.out hb)
  replace HX6 := am (blk_below HX6.out hb)
  replace HI := am (HI.out.below hb)
  replace HB := am (below_step HB.out hb)
  clear hb hHeld
  refine ⟨_, rfl, ?_⟩
  refine hK.out _ _ ⟨(blk_cell HX2.out 0).trans rfl, cellS93_1 HI.out.1⟩ (fun hHeld => ?_)
  clear hK K
  refine norm_ (a' := ?_) ?_ ?_
  rotate_left
  ·
   show Act.put _ (some 22) _ = _
   simp only [pw]
   rfl
  have cc := bcv HX5.out 0 (.int .i64 0) rfl
  have ff := bfz HX5.out 0
  refine one_ (i := 7) (N := none) (flg 9 255) rfl rfl (by kernel_rfl) (by decide) (fun K hK => ?_)
  refine skip_ (w1 := w8.setCell ⟨b5, 0, none⟩ (.int .i64 noise)) (by rfl) rfl (by first | (go_simp; done) | (go_simp; rfl)) ?_
  replace HX2 := am (blk_far HX2.out (p := ⟨b5, 0, none⟩) (by first | assumption | (exact Ne.symm (by assumption))) (.int .i64 noise))
  replace HX4 := am (blk_far HX4.out (p := ⟨b5, 0, none⟩) (by first | assumption | (exact Ne.symm (by assumption))) (.int .i64 noise))
  replace HX5 := am (blk_set HX5.out 0 (.int .i64 noise))
  replace HX6 := am (blk_far HX6.out (p := ⟨b5, 0, none⟩) (by first | assumption | (exact Ne.symm (by assumption))) (.int .i64 noise))
  replace HI := am (IsS93.far HI.out (p := ⟨b5, 0, none⟩) (by first | assumption | (exact Ne.symm (by assumption))) (.int .i64 noise))
  replace HB := am (HB.out.setCell (p := ⟨b5, 0, none⟩) g5 (.int .i64 noise))
  clear cc ff hHeld
  generalize w8.setCell ⟨b5, 0, none⟩ (.int .i64 noise) = w9 at HX2 HX4 HX5 HX6 HI HB ⊢
  refine hK.out _ _ ⟨(blk_cell HX2.out 0).trans rfl, cellS93_1 HI.out.1⟩ (fun hHeld => ?_)
  clear hK K
  have cc := bcv HX6.out 0 (.bool false) rfl
  have ff := bfz HX6.out 0
  refine one_ (i := 8) (N := none) (flg 9 511) rfl rfl (by kernel_rfl) (by decide) (fun K hK => ?_)
  refine skip_ (w1 := w9.setCell ⟨b6, 0, none⟩ (.bool nr)) (by rfl) rfl (by first | (go_simp; done) | (go_simp; rfl)) ?_
  replace HX2 := am (blk_far HX2.out (p := ⟨b6, 0, none⟩) (by first | assumption | (exact Ne.symm (by assumption))) (.bool nr))
  replace HX4 := am (blk_far HX4.out (p := ⟨b6, 0, none⟩) (by first | assumption | (exact Ne.symm (by assumption))) (.bool nr))
  replace HX5 := am (blk_far HX5.out (p := ⟨b6, 0, none⟩) (by first | assumption | (exact Ne.symm (by assumption))) (.bool nr))
  replace HX6 := am (blk_set HX6.out 0 (.bool nr))
  replace HI := am (IsS93.far HI.out (p := ⟨b6, 0, none⟩) (by first | assumption | (exact Ne.symm (by assumption))) (.bool nr))
  replace HB := am (HB.out.setCell (p := ⟨b6, 0, none⟩) g6 (.bool nr))
  clear cc ff hHeld
  generalize w9.setCell ⟨b6, 0, none⟩ (.bool nr) = w10 at HX2 HX4 HX5 HX6 HI HB ⊢
  refine hK.out _ _ ⟨(blk_cell HX2.out 0).trans rfl, cellS93_1 HI.out.1⟩ (fun hHeld => ?_)
  clear hK K
  refine done_ (by kernel_rfl) ?_
  dsimp only
  go_upto_region 6 with fail
  have c4 := bcv HX4.out 0 (.int .i64 z) rfl
  have c5 := bcv HX5.out 0 (.int .i64 noise) rfl
  have c6 := bcv HX6.out 0 (.bool nr) rfl
  have f4 := bfz HX4.out 0
  have f5 := bfz HX5.out 0
  have f6 := bfz HX6.out 0
  clear hHeld
  go_region
  clear c4 c5 c6 f4 f5 f6
  replace HX2 := am (blk_drew (blk_far (blk_far (blk_far HX2.out (p := ⟨b4, 0, none⟩) d24 (.int .i64 z)) (p := ⟨b5, 0, none⟩) d25 (.int .i64 noise)) (p := ⟨b6, 0, none⟩) d26 (.bool nr)))
  replace HX4 := am (blk_drew (blk_far (blk_far (blk_set HX4.out 0 (.int .i64 z)) (p := ⟨b5, 0, none⟩) d45 (.int .i64 noise)) (p := ⟨b6, 0, none⟩) d46 (.bool nr)))
  replace HX5 := am (blk_drew (blk_far (blk_set (blk_far HX5.out (p := ⟨b4, 0, none⟩) (Ne.symm d45) (.int .i64 z)) 0 (.int .i64 noise)) (p := ⟨b6, 0, none⟩) d56 (.bool nr)))
  replace HX6 := am (blk_drew (blk_set (blk_far (blk_far HX6.out (p := ⟨b4, 0, none⟩) (Ne.symm d46) (.int .i64 z)) (p := ⟨b5, 0, none⟩) (Ne.symm d56) (.int .i64 noise)) 0 (.bool nr)))
  replace HI := am (IsS93.drew (IsS93.far (IsS93.far (IsS93.far HI.out (p := ⟨b4, 0, none⟩) hne4 (.int .i64 z)) (p := ⟨b5, 0, none⟩) hne5 (.int .i64 noise)) (p := ⟨b6, 0, none⟩) hne6 (.bool nr)))
  replace HB := am (below_drew (((HB.out.setCell (p := ⟨b4, 0, none⟩) g4 (.int .i64 z)).setCell (p := ⟨b5, 0, none⟩) g5 (.int .i64 noise)).setCell (p := ⟨b6, 0, none⟩) g6 (.bool nr)))
  generalize (((w10.setCell ⟨b4, 0, none⟩ (.int .i64 z)).setCell ⟨b5, 0, none⟩ (.int .i64 noise)).setCell ⟨b6, 0, none⟩ (.bool nr)).drew = w11 at HX2 HX4 HX5 HX6 HI HB ⊢
  go_wp2_with fail
  refine leaves_cons (f := 104) (args := #[.pointer (some ⟨b6, 0, none⟩), .pointer (some ⟨n, 0, none⟩), .pointer (some ⟨b4, 0, none⟩), .pointer (some ⟨b5, 0, none⟩)]) (by simp) (by simp [go_sem]) ?_
  refine (level1_any w0 w w11 .returning b6 n b4 b5 g band noise rough count z noise known nr HX6.out HX2.out HX4.out HX5.out HI.out (HT0.out.below HB.out) d45 g4 g5 HB.out).mono ?_
  rintro e u' w12 ⟨rfl, rfl, h4, h5, h6, hb⟩
  have r4 := bcv h4 0 (.int .i64 (if nr then mx z (altv count) else z)) rfl
  have r5 := bcv h5 0 (.int .i64 (if nr then rough else noise)) rfl
  have r6 := bcv h6 0 (.bool nr) rfl
  replace HV := HV.out
  rw [← HNR.out, ← HZZ.out] at HV
  clear HX2 HX4 HX5 HX6 h4 h5 h6
  generalize (if nr then mx z (altv count) else z) = zz at r4 HV
  generalize (if nr then rough else noise) = nn at r5 HV
  refine ⟨.tuple #[.int .i64 zz, .int .i64 nn, .bool nr, .int .i64 0], ?_, congrArg Ending.returned HV.symm, hb⟩
  simp [results, Tryz.results71, go_sem, r4, r5, r6]
end Go.Proofs.YtpdahkgandaabaaGreatDoor.Ch
