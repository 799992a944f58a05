/- A part of the proof of TopAgain, where the package's tables hold what their initialisers lay. -/
import Derived.Test.YtpdahkgandaabaaGreatDoorT01
import Derived.Test.YtpdahkgandaabaaGreatDoorT04
namespace Go.Proofs.YtpdahkgandaabaaGreatDoor.Ch
open Go.RowKit Go.Proofs.YtpdahkgandaabaaGreatDoorW.PrintWords Go.Proofs.YtpdahkgandaabaaGreatDoorW.PrintLast Go.Proofs.YtpdahkgandaabaaGreatDoorW.PrintMore Go.Proofs.YtpdahkgandaabaaGreatDoor.PTopNames Go.Proofs.YtpdahkgandaabaaGreatDoor.Al
set_option linter.unusedVariables false
set_option linter.unusedSimpArgs false
theorem u_bits (op : BinOp) (x y : Int) : U (Go.bits op .u64 x y) := u_wrap _
def sz (a : Int) : Int := if a < 0 then IntKind.u64.wrap (-(IntKind.u64.wrap a)) else IntKind.u64.wrap a
theorem sz_f (a : Int) : wide_size.f a = some (sz a) := by
 unfold wide_size.f sz
 split <;> rfl
theorem mul64_f (x y : Int) : ∃ hi lo, bits_Mul64.f x y = some (hi, lo) ∧ U lo := ⟨_, _, rfl, u_wrap _⟩
theorem two_set {w0 w : World} {b : Nat} {C : Array Value} (hC : C.size = 2) (hX : w.heap[b]? = some (.cells C 124 (0, 0))) (g : w0.heap.size ≤ b) (hB : Below w0.heap.size w0 w) (x y : Value) :
  ((w.setCell ⟨b, 0, none⟩ x).setCell ⟨b, 1, none⟩ y).heap[b]? = some (.cells #[x, y] 124 (0, 0)) ∧ Below w0.heap.size w0 ((w.setCell ⟨b, 0, none⟩ x).setCell ⟨b, 1, none⟩ y) := by
 obtain ⟨c0, c1, rfl⟩ : ∃ c0 c1, C = #[c0, c1] := by
  obtain ⟨l⟩ := C
  match l, hC with
  | [c0, c1], _ => exact ⟨c0, c1, rfl⟩
 exact ⟨blk_set (blk_set hX 0 x) 1 y, (hB.setCell (p := ⟨b, 0, none⟩) g x).setCell (p := ⟨b, 1, none⟩) g y⟩
set_option maxRecDepth 100000 in
set_option maxHeartbeats 4000000 in
theorem mul_tells (a b : Int) : ∃ h l, U l ∧ Tells 98 #[a, b] (wide h l) := by
 obtain ⟨hi, lo, hm, hu⟩ := mul64_f (sz a) (sz b)
 obtain ⟨h2, l2, hu2, hl⟩ := less_tells 0 0 (wrap64 hi) lo ⟨by decide, by decide⟩ hu
 have HM := am hm
 have HL := am hl
 clear hm hl
 unfold wide at HL ⊢
 by_cases h1 : a < 0
 ·
  have d1 : decide (a < 0) = true := decide_eq_true h1
  by_cases h2' : b < 0
  ·
   have d2 : decide (b < 0) = true := decide_eq_true h2'
   refine ⟨wrap64 hi, lo, hu, fun w hG => ?_⟩
   have HG := am hG
   clear hG
   go_enter Tryz.func98, Tryz.ntmps98
   go_upto_region 1 with fail
   have HX4 := am (blk_new w (.cells #[(), .int .u64 0] 124))
   have HB := am (below_alloc (Below.refl w.heap.size w) (.cells #[(), .int .u64 0] 124))
   generalize w.alloc (.cells #[(), .int .u64 0] 124) = w1 at HX4 HB ⊢
   obtain ⟨b4, h4⟩ := e_x (w.heap.size)
   have g4 : w.heap.size ≤ b4 := by omega
   rw [← h4] at HX4 ⊢
   clear h4
   go_wp2_with fail
   refine (wide_size.calls a (sz a) w1 (sz_f a)).mono ?_
   rintro e w2 ⟨rfl, hd⟩
   replace HX4 := am (blk_below HX4.out hd.below)
   replace HB := am (below_step HB.out hd.below)
   clear hd
   go_wp2_with fail
   refine (wide_size.calls b (sz b) w2 (sz_f b)).mono ?_
   rintro e w3 ⟨rfl, hd⟩
   replace HX4 := am (blk_below HX4.out hd.below)
   replace HB := am (below_step HB.out hd.below)
   clear hd
   go_wp2_with fail
   refine (bits_Mul64.calls (sz a) (sz b) hi lo w3 HM.out).mono ?_
   rintro e w4 ⟨rfl, hd⟩
   have n47 : b4 ≠ w4.heap.size := Nat.ne_of_lt (Nat.lt_of_lt_of_le (blk_lt HX4.out) hd.below.size)
   go_upto_region 3 with fail
   have HY := am (blk_new w4 (.cells #[.int .i64 (wrap64 hi), .int .u64 lo] 124))
   replace HX4 := am (blk_alloc (blk_below HX4.out hd.below) (.cells #[.int .i64 (wrap64 hi), .int .u64 lo] 124))
   have HG7 := am (below_step HB.out hd.below).size
   replace HB := am (below_alloc (below_step HB.out hd.below) (.cells #[.int .i64 (wrap64 hi), .int .u64 lo] 124))
   clear hd
   generalize w4.alloc (.cells #[.int .i64 (wrap64 hi), .int .u64 lo] 124) = w5 at HY HX4 HB ⊢
   generalize w4.heap.size = b7 at HY HG7 n47 ⊢
   have y70 := b_l HY 0 rfl
   have y71 := b_l HY 1 rfl
   have y40 := b_l HX4 0 rfl
   have y41 := b_l HX4 1 rfl
   have f40 := b_z HX4 0
   have f41 := b_z HX4 1
   go_wp2_with fail
   obtain ⟨q, qb⟩ := two_set rfl HX4.out g4 HB.out (.int .i64 (wrap64 hi)) (.int .u64 lo)
   refine bodyPost_ret (results_cell_row rfl _ _ b4 124 _ (0, 0) _ rfl q Tryz.underlying124 rfl (by kernel_rfl)) rfl ⟨rfl, qb⟩
  have d2 : decide (b < 0) = false := decide_eq_false h2'
  refine ⟨h2, l2, hu2, fun w hG => ?_⟩
  have HG := am hG
  clear hG
  go_enter Tryz.func98, Tryz.ntmps98
  go_upto_region 1 with fail
  have HX4 := am (blk_new w (.cells #[(), .int .u64 0] 124))
  have HB := am (below_alloc (Below.refl w.heap.size w) (.cells #[(), .int .u64 0] 124))
  generalize w.alloc (.cells #[(), .int .u64 0] 124) = w1 at HX4 HB ⊢
  obtain ⟨b4, h4⟩ := e_x (w.heap.size)
  have g4 : w.heap.size ≤ b4 := by omega
  rw [← h4] at HX4 ⊢
  clear h4
  go_wp2_with fail
  refine (wide_size.calls a (sz a) w1 (sz_f a)).mono ?_
  rintro e w2 ⟨rfl, hd⟩
  replace HX4 := am (blk_below HX4.out hd.below)
  replace HB := am (below_step HB.out hd.below)
  clear hd
  go_wp2_with fail
  refine (wide_size.calls b (sz b) w2 (sz_f b)).mono ?_
  rintro e w3 ⟨rfl, hd⟩
  replace HX4 := am (blk_below HX4.out hd.below)
  replace HB := am (below_step HB.out hd.below)
  clear hd
  go_wp2_with fail
  refine (bits_Mul64.calls (sz a) (sz b) hi lo w3 HM.out).mono ?_
  rintro e w4 ⟨rfl, hd⟩
  have n47 : b4 ≠ w4.heap.size := Nat.ne_of_lt (Nat.lt_of_lt_of_le (blk_lt HX4.out) hd.below.size)
  go_upto_region 3 with fail
  have HY := am (blk_new w4 (.cells #[.int .i64 (wrap64 hi), .int .u64 lo] 124))
  replace HX4 := am (blk_alloc (blk_below HX4.out hd.below) (.cells #[.int .i64 (wrap64 hi), .int .u64 lo] 124))
  have HG7 := am (below_step HB.out hd.below).size
  replace HB := am (below_alloc (below_step HB.out hd.below) (.cells #[.int .i64 (wrap64 hi), .int .u64 lo] 124))
  clear hd
  generalize w4.alloc (.cells #[.int .i64 (wrap64 hi), .int .u64 lo] 124) = w5 at HY HX4 HB ⊢
  generalize w4.heap.size = b7 at HY HG7 n47 ⊢
  have hn := (HG.out.below HB.out).none0
  have hn1 := (HG.out.below HB.out).none1
  have y70 := b_l HY 0 rfl
  have y71 := b_l HY 1 rfl
  go_wp2_with fail
  refine (HL.out w5 (HG.out.below HB.out)).mono ?_
  rintro e w6 ⟨rfl, hb⟩
  clear hn hn1 y70 y71
  replace HX4 := b_b HX4 hb
  replace HY := b_b HY hb
  replace HB := b_s HB hb
  clear hb
  have y70 := b_l HY 0 rfl
  have y71 := b_l HY 1 rfl
  have f70 := b_z HY 0
  have f71 := b_z HY 1
  go_upto_region 5 with fail
  obtain ⟨q, qb⟩ := two_set rfl HY.out HG7.out HB.out (.int .i64 h2) (.int .u64 l2)
  have q4 := blk_far (blk_far HX4.out (p := ⟨b7, 0, none⟩) n47 (.int .i64 h2)) (p := ⟨b7, 1, none⟩) n47 (.int .u64 l2)
  clear y70 y71 f70 f71
  generalize (w6.setCell ⟨b7, 0, none⟩ (.int .i64 h2)).setCell ⟨b7, 1, none⟩ (.int .u64 l2) = w7 at q qb q4 ⊢
  replace HY := am q
  replace HX4 := am q4
  replace HB := am qb
  clear q q4 qb
  have y70 := b_l HY 0 rfl
  have y71 := b_l HY 1 rfl
  have y40 := b_l HX4 0 rfl
  have y41 := b_l HX4 1 rfl
  have f40 := b_z HX4 0
  have f41 := b_z HX4 1
  go_wp2_with fail
  obtain ⟨q, qb⟩ := two_set rfl HX4.out g4 HB.out (.int .i64 h2) (.int .u64 l2)
  refine bodyPost_ret (results_cell_row rfl _ _ b4 124 _ (0, 0) _ rfl q Tryz.underlying124 rfl (by kernel_rfl)) rfl ⟨rfl, qb⟩
 have d1 : decide (a < 0) = false := decide_eq_false h1
 by_cases h2' : b < 0
 ·
  have d2 : decide (b < 0) = true := decide_eq_true h2'
  refine ⟨h2, l2, hu2, fun w hG => ?_⟩
  have HG := am hG
  clear hG
  go_enter Tryz.func98, Tryz.ntmps98
  go_upto_region 1 with fail
  have HX4 := am (blk_new w (.cells #[(), .int .u64 0] 124))
  have HB := am (below_alloc (Below.refl w.heap.size w) (.cells #[(), .int .u64 0] 124))
  generalize w.alloc (.cells #[(), .int .u64 0] 124) = w1 at HX4 HB ⊢
  obtain ⟨b4, h4⟩ := e_x (w.heap.size)
  have g4 : w.heap.size ≤ b4 := by omega
  rw [← h4] at HX4 ⊢
  clear h4
  go_wp2_with fail
  refine (wide_size.calls a (sz a) w1 (sz_f a)).mono ?_
  rintro e w2 ⟨rfl, hd⟩
  replace HX4 := am (blk_below HX4.out hd.below)
  replace HB := am (below_step HB.out hd.below)
  clear hd
  go_wp2_with fail
  refine (wide_size.calls b (sz b) w2 (sz_f b)).mono ?_
  rintro e w3 ⟨rfl, hd⟩
  replace HX4 := am (blk_below HX4.out hd.below)
  replace HB := am (below_step HB.out hd.below)
  clear hd
  go_wp2_with fail
  refine (bits_Mul64.calls (sz a) (sz b) hi lo w3 HM.out).mono ?_
  rintro e w4 ⟨rfl, hd⟩
  have n47 : b4 ≠ w4.heap.size := Nat.ne_of_lt (Nat.lt_of_lt_of_le (blk_lt HX4.out) hd.below.size)
  go_upto_region 3 with fail
  have HY := am (blk_new w4 (.cells #[.int .i64 (wrap64 hi), .int .u64 lo] 124))
  replace HX4 := am (blk_alloc (blk_below HX4.out hd.below) (.cells #[.int .i64 (wrap64 hi), .int .u64 lo] 124))
  have HG7 := am (below_step HB.out hd.below).size
  replace HB := am (below_alloc (below_step HB.out hd.below) (.cells #[.int .i64 (wrap64 hi), .int .u64 lo] 124))
  clear hd
  generalize w4.alloc (.cells #[.int .i64 (wrap64 hi), .int .u64 lo] 124) = w5 at HY HX4 HB ⊢
  generalize w4.heap.size = b7 at HY HG7 n47 ⊢
  have hn := (HG.out.below HB.out).none0
  have hn1 := (HG.out.below HB.out).none1
  have y70 := b_l HY 0 rfl
  have y71 := b_l HY 1 rfl
  go_wp2_with fail
  refine (HL.out w5 (HG.out.below HB.out)).mono ?_
  rintro e w6 ⟨rfl, hb⟩
  clear hn hn1 y70 y71
  replace HX4 := b_b HX4 hb
  replace HY := b_b HY hb
  replace HB := b_s HB hb
  clear hb
  have y70 := b_l HY 0 rfl
  have y71 := b_l HY 1 rfl
  have f70 := b_z HY 0
  have f71 := b_z HY 1
  go_upto_region 5 with fail
  obtain ⟨q, qb⟩ := two_set rfl HY.out HG7.out HB.out (.int .i64 h2) (.int .u64 l2)
  have q4 := blk_far (blk_far HX4.out (p := ⟨b7, 0, none⟩) n47 (.int .i64 h2)) (p := ⟨b7, 1, none⟩) n47 (.int .u64 l2)
  clear y70 y71 f70 f71
  generalize (w6.setCell ⟨b7, 0, none⟩ (.int .i64 h2)).setCell ⟨b7, 1, none⟩ (.int .u64 l2) = w7 at q qb q4 ⊢
  replace HY := am q
  replace HX4 := am q4
  replace HB := am qb
  clear q q4 qb
  have y70 := b_l HY 0 rfl
  have y71 := b_l HY 1 rfl
  have y40 := b_l HX4 0 rfl
  have y41 := b_l HX4 1 rfl
  have f40 := b_z HX4 0
  have f41 := b_z HX4 1
  go_wp2_with fail
  obtain ⟨q, qb⟩ := two_set rfl HX4.out g4 HB.out (.int .i64 h2) (.int .u64 l2)
  refine bodyPost_ret (results_cell_row rfl _ _ b4 124 _ (0, 0) _ rfl q Tryz.underlying124 rfl (by kernel_rfl)) rfl ⟨rfl, qb⟩
 have d2 : decide (b < 0) = false := decide_eq_false h2'
 refine ⟨wrap64 hi, lo, hu, fun w hG => ?_⟩
 have HG := am hG
 clear hG
 go_enter Tryz.func98, Tryz.ntmps98
 go_upto_region 1 with fail
 have HX4 := am (blk_new w (.cells #[(), .int .u64 0] 124))
 have HB := am (below_alloc (Below.refl w.heap.size w) (.cells #[(), .int .u64 0] 124))
 generalize w.alloc (.cells #[(), .int .u64 0] 124) = w1 at HX4 HB ⊢
 obtain ⟨b4, h4⟩ := e_x (w.heap.size)
 have g4 : w.heap.size ≤ b4 := by omega
 rw [← h4] at HX4 ⊢
 clear h4
 go_wp2_with fail
 refine (wide_size.calls a (sz a) w1 (sz_f a)).mono ?_
 rintro e w2 ⟨rfl, hd⟩
 replace HX4 := am (blk_below HX4.out hd.below)
 replace HB := am (below_step HB.out hd.below)
 clear hd
 go_wp2_with fail
 refine (wide_size.calls b (sz b) w2 (sz_f b)).mono ?_
 rintro e w3 ⟨rfl, hd⟩
 replace HX4 := am (blk_below HX4.out hd.below)
 replace HB := am (below_step HB.out hd.below)
 clear hd
 go_wp2_with fail
 refine (bits_Mul64.calls (sz a) (sz b) hi lo w3 HM.out).mono ?_
 rintro e w4 ⟨rfl, hd⟩
 have n47 : b4 ≠ w4.heap.size := Nat.ne_of_lt (Nat.lt_of_lt_of_le (blk_lt HX4.out) hd.below.size)
 go_upto_region 3 with fail
 have HY := am (blk_new w4 (.cells #[.int .i64 (wrap64 hi), .int .u64 lo] 124))
 replace HX4 := am (blk_alloc (blk_below HX4.out hd.below) (.cells #[.int .i64 (wrap64 hi), .int .u64 lo] 124))
 have HG7 := am (below_step HB.out hd.below).size
 replace HB := am (below_alloc (below_step HB.out hd.below) (.cells #[.int .i64 (wrap64 hi), .int .u64 lo] 124))
 clear hd
 generalize w4.alloc (.cells #[.int .i64 (wrap64 hi), .int .u64 lo] 124) = w5 at HY HX4 HB ⊢
 generalize w4.heap.size = b7 at HY HG7 n47 ⊢
 have y70 := b_l HY 0 rfl
 have y71 := b_l HY 1 rfl
 have y40 := b_l HX4 0 rfl
 have y41 := b_l HX4 1 rfl
 have f40 := b_z HX4 0
 have f41 := b_z HX4 1
 go_wp2_with fail
 obtain ⟨q, qb⟩ := two_set rfl HX4.out g4 HB.out (.int .i64 (wrap64 hi)) (.int .u64 lo)
 refine bodyPost_ret (results_cell_row rfl _ _ b4 124 _ (0, 0) _ rfl q Tryz.underlying124 rfl (by kernel_rfl)) rfl ⟨rfl, qb⟩
def dn (s : Int × Int × Int × Int) : Int × Int × Int × Int :=
 (s.1 / 2, Go.bits .or .u64 (s.2.1 / 2) (IntKind.u64.wrap (IntKind.u64.wrap s.1 * 9223372036854775808)), Go.bits .and .u64 s.2.1 1, Go.bits .or .u64 s.2.2.2 s.2.2.1)
def dnN (s : Int × Int × Int × Int) : Nat → Int × Int × Int × Int
 | 0 => s
 | n + 1 => dn (dnN s n)
theorem dnN_u {h l : Int} (hl : U l) : ∀ n, U (dnN (h, l, 0, 0) n).2.1
 | 0 => hl
 | n + 1 => by
  show U (Go.bits .or .u64 _ _)
  exact u_bits _ _ _
set_option maxRecDepth 100000 in
set_option maxHeartbeats 4000000 in
theorem half_tells (h l n : Int) (hl : U l) (h0 : 0 ≤ n) (h1 : n ≤ 127) : ∃ h' l', U l' ∧ Tells 78 #[wide h l, n] (.tuple #[wide h' l', ()]) := by
 obtain ⟨h', hh⟩ : ∃ h', h' = (dnN (h, l, 0, 0) n.toNat).1 := ⟨_, rfl⟩
 obtain ⟨l', hll⟩ : ∃ l', l' = (dnN (h, l, 0, 0) n.toNat).2.1 := ⟨_, rfl⟩
 obtain ⟨la, hla⟩ : ∃ la, la = (dnN (h, l, 0, 0) n.toNat).2.2.1 := ⟨_, rfl⟩
 obtain ⟨re, hre⟩ : ∃ re, re = (dnN (h, l, 0, 0) n.toNat).2.2.2 := ⟨_, rfl⟩
 have hu : U l' := hll ▸ dnN_u hl _
 obtain ⟨h2, l2, hu2, hp⟩ := plus_tells h' l' 0 1 hu ⟨by decide, by decide⟩
 obtain ⟨up, hup⟩ : ∃ up : Bool, up = (la == 1 && (re == 1 || Go.bits .and .u64 l' 1 == 1)) := ⟨_, rfl⟩
 obtain ⟨R, hR⟩ : ∃ R, R = (if up then (h2, l2) else (h', l')) := ⟨_, rfl⟩
 refine ⟨R.1, R.2, by rw [hR]; split <;> assumption, fun w hG => ?_⟩
 have HP := am hp
 have HG := am hG
 have HU := am hup
 have HRR := am hR
 have HE := am (And.intro hh (And.intro hll (And.intro hla hre)))
 clear hp hG hup hR hh hll hla hre hu hu2 hl
 unfold wide at HP ⊢
 have e1 : decide (n < 0) = false := decide_eq_false (by omega)
 have e2 : decide (127 < n) = false := decide_eq_false (by omega)
 go_enter Tryz.func78, Tryz.ntmps78
 go_upto_region 1 with fail
 obtain ⟨x2, x3, hB⟩ := blocks2 w #[h, .int .u64 l] #[(), .int .u64 0] 124 124
 generalize (w.alloc (.cells #[h, .int .u64 l] 124)).alloc (.cells #[(), .int .u64 0] 124) = w1 at x2 x3 hB ⊢
 obtain ⟨b2, h2'⟩ : ∃ b, b = w.heap.size := ⟨_, rfl⟩
 obtain ⟨b4, h4'⟩ : ∃ b, b = w.heap.size + 1 := ⟨_, rfl⟩
 have g2 : w.heap.size ≤ b2 := by omega
 have g4 : w.heap.size ≤ b4 := by omega
 have ne : b4 ≠ b2 := by omega
 rw [← h4', ← h2']
 rw [← h4'] at x3
 rw [← h2'] at x2
 have HX := am x2
 have HY := am x3
 have HB := am hB
 clear x2 x3 hB h2' h4'
 go_wp2_with fail
 go_loopw [6, 7, 16] (fun v6 v7 v16 wr => ∃ k : Nat, (k : Int) ≤ n ∧ v6 = .int .u64 (dnN (h, l, 0, 0) k).2.2.1 ∧ v7 = .int .u64 (dnN (h, l, 0, 0) k).2.2.2 ∧ v16 = .int .i64 k ∧ Aside0 (wr.heap[b2]? = some (.cells #[.int .i64 (dnN (h, l, 0, 0) k).1, .int .u64 (dnN (h, l, 0, 0) k).2.1] 124 (0, 0))) ∧ Aside0 (wr.heap[b4]? = some (.cells #[(), .int .u64 0] 124 (0, 0))) ∧ Aside0 (Below w.heap.size w wr)) (fun _ _ v16 _ => n.toNat + 1 - (intOf v16).toNat)
 case atStart => exact ⟨0, h0, rfl, rfl, rfl, HX, HY, HB⟩
 case round =>
  clear HX HY HB
  obtain ⟨k, hk, rfl, rfl, rfl, HX, HY, HB⟩ := hrel
  by_cases hlt : (k : Int) < n
  ·
   have q0 : decide ((k : Int) < n) = true := decide_eq_true hlt
   have HS := am (show dnN (h, l, 0, 0) (k + 1) = dn (dnN (h, l, 0, 0) k) from rfl)
   generalize dnN (h, l, 0, 0) k = sk at HX HS ⊢
   obtain ⟨ph, pl, pa, pr⟩ := sk
   have y0 := b_l HX 0 rfl
   have y1 := b_l HX 1 rfl
   go_wp2_with fail
   refine (wide_down.calls ph pl _ _ _ wr rfl).mono ?_
   rintro e w2 ⟨rfl, hb⟩
   replace HX := b_b HX hb
   replace HY := b_b HY hb
   replace HB := b_s HB hb
   clear hb y0 y1
   have y0 := b_l HX 0 rfl
   have y1 := b_l HX 1 rfl
   have f0 := b_z HX 0
   have f1 := b_z HX 1
   go_wp2_with fail
   obtain ⟨q, qb⟩ := two_set rfl HX.out g2 HB.out (.int .i64 (ph / 2)) (.int .u64 (Go.bits .or .u64 (pl / 2) (IntKind.u64.wrap (IntKind.u64.wrap ph * 9223372036854775808))))
   have q4 := blk_far (blk_far HY.out (p := ⟨b2, 0, none⟩) ne (.int .i64 (ph / 2))) (p := ⟨b2, 1, none⟩) ne (.int .u64 (Go.bits .or .u64 (pl / 2) (IntKind.u64.wrap (IntKind.u64.wrap ph * 9223372036854775808))))
   go_roundw
   case rel => exact ⟨k + 1, hlt, by rw [HS.out]; rfl, by rw [HS.out]; rfl, rfl, ⟨by rw [HS.out]; exact q⟩, ⟨q4⟩, ⟨qb⟩⟩
   case measure =>
    show n.toNat + 1 - ((k : Int) + 1).toNat < n.toNat + 1 - (k : Int).toNat
    omega
  have q0 : decide ((k : Int) < n) = false := decide_eq_false hlt
  obtain rfl : k = n.toNat := by omega
  clear hk
  rw [← HE.out.2.2.1, ← HE.out.2.2.2]
  replace HX := am (show wr.heap[b2]? = some (.cells #[h', .int .u64 l'] 124 (0, 0)) by rw [HE.out.1, HE.out.2.1]; exact HX.out)
  clear HE
  have y1 := b_l HX 1 rfl
  by_cases a1 : la = 1
  ·
   have p1 : (la == 1) = true := by simp [a1]
   have p1' : decide (la = 1) = true := decide_eq_true a1
   by_cases r1 : re = 1
   ·
    have p2 : (re == 1) = true := by simp [r1]
    have p2' : decide (re = 1) = true := decide_eq_true r1
    have HR := am (show R = (h2, l2) by rw [HRR.out, HU.out, p1, p2]; rfl)
    go_upto_region 10 with fail
    clear y1
    refine s_t 4 (fun _ => True) trivial (fun hHeld => ?_)
    replace HX := b_d HX
    replace HY := b_d HY
    replace HB := am (below_drew HB.out)
    generalize wr.drew = wd at HX HY HB hHeld ⊢
    refine two_ (i := 0) (j := 1) (Ni := (some 39)) (Nj := (some 40)) (flg 4 1) (flg 4 2) rfl rfl rfl rfl (by kernel_rfl) (by decide) (by decide) (fun K hK => ?_) (fun K hK => ?_)
    ·
     skip
     have y0 := b_l HX 0 rfl
     have y1 := b_l HX 1 rfl
     refine event_step (v := .agg #[h', .int .u64 l']) (w1 := wd) (by rfl) (by first | (go_simp; done) | (go_simp; rfl)) ?_
     clear y0 y1 hHeld
     refine hK.out _ _ trivial (fun hHeld => ?_)
     clear hK K
     refine n_o 39 ?_
     refine o_n 1 40 4 3 fun K hK => ?_
     refine g_s Tryz.func79 #[.int .i64 1] ?_
     refine (wide_Of.calls 1 0 1 wd rfl).mono ?_
     rintro e wdx1 ⟨rfl, hb⟩
     replace HX := b_b HX hb
     replace HY := b_b HY hb
     replace HB := b_s HB hb
     clear hb hHeld
     refine ⟨_, rfl, ?_⟩
     refine hK.out _ _ trivial (fun hHeld => ?_)
     clear hK K
     refine n_o 40 ?_
     refine o_n 2 41 4 7 fun K hK => ?_
     refine g_s Tryz.func123 #[.agg #[h', .int .u64 l'], .agg #[(), .int .u64 1]] ?_
     refine (HP.out wdx1 (HG.out.below HB.out)).mono ?_
     rintro e wdx1x2 ⟨rfl, hb⟩
     replace HX := b_b HX hb
     replace HY := b_b HY hb
     replace HB := b_s HB hb
     clear hb hHeld
     refine ⟨_, rfl, ?_⟩
     refine hK.out _ _ trivial (fun hHeld => ?_)
     clear hK K
     refine n_o 41 ?_
     refine o_0 3 4 15 fun K hK => ?_
     have y0 := b_l HX 0 rfl
     have y1 := b_l HX 1 rfl
     have f0 := b_z HX 0
     have f1 := b_z HX 1
     refine s_k ((wdx1x2.setCell ⟨b2, 0, none⟩ (.int .i64 h2)).setCell ⟨b2, 1, none⟩ (.int .u64 l2)) ?_
     obtain ⟨q, qb⟩ := two_set rfl HX.out g2 HB.out (.int .i64 h2) (.int .u64 l2)
     have q4 := blk_far (blk_far HY.out (p := ⟨b2, 0, none⟩) ne (.int .i64 h2)) (p := ⟨b2, 1, none⟩) ne (.int .u64 l2)
     clear y0 y1 f0 f1 hHeld HX HY HB
     generalize (wdx1x2.setCell ⟨b2, 0, none⟩ (.int .i64 h2)).setCell ⟨b2, 1, none⟩ (.int .u64 l2) = wdx1x2x3 at q qb q4 ⊢
     have HX := am q
     have HY := am q4
     have HB := am qb
     clear q q4 qb
     refine hK.out _ _ trivial (fun hHeld => ?_)
     clear hK K
     refine d_n ?_
     have y0 := b_l HX 0 rfl
     have y1 := b_l HX 1 rfl
     have z0 := b_l HY 0 rfl
     have z1 := b_l HY 1 rfl
     have f0 := b_z HY 0
     have f1 := b_z HY 1
     go_wp2_with fail
     obtain ⟨q, qb⟩ := two_set rfl HY.out g4 HB.out (.int .i64 h2) (.int .u64 l2)
     refine bodyPost_ret (results_ct rfl _ _ b4 124 _ (0, 0) _ rfl q Tryz.underlying124 rfl (by kernel_rfl)) rfl ⟨?_, qb⟩
     rw [HR.out]
     rfl
    skip
    refine g_s Tryz.func79 #[.int .i64 1] ?_
    refine (wide_Of.calls 1 0 1 wd rfl).mono ?_
    rintro e wdx1 ⟨rfl, hb⟩
    replace HX := b_b HX hb
    replace HY := b_b HY hb
    replace HB := b_s HB hb
    clear hb hHeld
    refine ⟨_, rfl, ?_⟩
    refine hK.out _ _ trivial (fun hHeld => ?_)
    clear hK K
    refine n_o 40 ?_
    refine o_n 0 39 4 3 fun K hK => ?_
    have y0 := b_l HX 0 rfl
    have y1 := b_l HX 1 rfl
    refine event_step (v := .agg #[h', .int .u64 l']) (w1 := wdx1) (by rfl) (by first | (go_simp; done) | (go_simp; rfl)) ?_
    clear y0 y1 hHeld
    refine hK.out _ _ trivial (fun hHeld => ?_)
    clear hK K
    refine n_o 39 ?_
    refine o_n 2 41 4 7 fun K hK => ?_
    refine g_s Tryz.func123 #[.agg #[h', .int .u64 l'], .agg #[(), .int .u64 1]] ?_
    refine (HP.out wdx1 (HG.out.below HB.out)).mono ?_
    rintro e wdx1x2 ⟨rfl, hb⟩
    replace HX := b_b HX hb
    replace HY := b_b HY hb
    replace HB := b_s HB hb
    clear hb hHeld
    refine ⟨_, rfl, ?_⟩
    refine hK.out _ _ trivial (fun hHeld => ?_)
    clear hK K
    refine n_o 41 ?_
    refine o_0 3 4 15 fun K hK => ?_
    have y0 := b_l HX 0 rfl
    have y1 := b_l HX 1 rfl
    have f0 := b_z HX 0
    have f1 := b_z HX 1
    refine s_k ((wdx1x2.setCell ⟨b2, 0, none⟩ (.int .i64 h2)).setCell ⟨b2, 1, none⟩ (.int .u64 l2)) ?_
    obtain ⟨q, qb⟩ := two_set rfl HX.out g2 HB.out (.int .i64 h2) (.int .u64 l2)
    have q4 := blk_far (blk_far HY.out (p := ⟨b2, 0, none⟩) ne (.int .i64 h2)) (p := ⟨b2, 1, none⟩) ne (.int .u64 l2)
    clear y0 y1 f0 f1 hHeld HX HY HB
    generalize (wdx1x2.setCell ⟨b2, 0, none⟩ (.int .i64 h2)).setCell ⟨b2, 1, none⟩ (.int .u64 l2) = wdx1x2x3 at q qb q4 ⊢
    have HX := am q
    have HY := am q4
    have HB := am qb
    clear q q4 qb
    refine hK.out _ _ trivial (fun hHeld => ?_)
    clear hK K
    refine d_n ?_
    have y0 := b_l HX 0 rfl
    have y1 := b_l HX 1 rfl
    have z0 := b_l HY 0 rfl
    have z1 := b_l HY 1 rfl
    have f0 := b_z HY 0
    have f1 := b_z HY 1
    go_wp2_with fail
    obtain ⟨q, qb⟩ := two_set rfl HY.out g4 HB.out (.int .i64 h2) (.int .u64 l2)
    refine bodyPost_ret (results_ct rfl _ _ b4 124 _ (0, 0) _ rfl q Tryz.underlying124 rfl (by kernel_rfl)) rfl ⟨?_, qb⟩
    rw [HR.out]
    rfl
   have p2 : (re == 1) = false := by simp [r1]
   have p2' : decide (re = 1) = false := decide_eq_false r1
   by_cases t1 : Go.bits .and .u64 l' 1 = 1
   ·
    have p3 : (Go.bits .and .u64 l' 1 == 1) = true := by simp [t1]
    have p3' : decide (Go.bits .and .u64 l' 1 = 1) = true := decide_eq_true t1
    have HR := am (show R = (h2, l2) by rw [HRR.out, HU.out, p1, p2, p3]; rfl)
    go_upto_region 10 with fail
    clear y1
    refine s_t 4 (fun _ => True) trivial (fun hHeld => ?_)
    replace HX := b_d HX
    replace HY := b_d HY
    replace HB := am (below_drew HB.out)
    generalize wr.drew = wd at HX HY HB hHeld ⊢
    refine two_ (i := 0) (j := 1) (Ni := (some 39)) (Nj := (some 40)) (flg 4 1) (flg 4 2) rfl rfl rfl rfl (by kernel_rfl) (by decide) (by decide) (fun K hK => ?_) (fun K hK => ?_)
    ·
     skip
     have y0 := b_l HX 0 rfl
     have y1 := b_l HX 1 rfl
     refine event_step (v := .agg #[h', .int .u64 l']) (w1 := wd) (by rfl) (by first | (go_simp; done) | (go_simp; rfl)) ?_
     clear y0 y1 hHeld
     refine hK.out _ _ trivial (fun hHeld => ?_)
     clear hK K
     refine n_o 39 ?_
     refine o_n 1 40 4 3 fun K hK => ?_
     refine g_s Tryz.func79 #[.int .i64 1] ?_
     refine (wide_Of.calls 1 0 1 wd rfl).mono ?_
     rintro e wdx1 ⟨rfl, hb⟩
     replace HX := b_b HX hb
     replace HY := b_b HY hb
     replace HB := b_s HB hb
     clear hb hHeld
     refine ⟨_, rfl, ?_⟩
     refine hK.out _ _ trivial (fun hHeld => ?_)
     clear hK K
     refine n_o 40 ?_
     refine o_n 2 41 4 7 fun K hK => ?_
     refine g_s Tryz.func123 #[.agg #[h', .int .u64 l'], .agg #[(), .int .u64 1]] ?_
     refine (HP.out wdx1 (HG.out.below HB.out)).mono ?_
     rintro e wdx1x2 ⟨rfl, hb⟩
     replace HX := b_b HX hb
     replace HY := b_b HY hb
     replace HB := b_s HB hb
     clear hb hHeld
     refine ⟨_, rfl, ?_⟩
     refine hK.out _ _ trivial (fun hHeld => ?_)
     clear hK K
     refine n_o 41 ?_
     refine o_0 3 4 15 fun K hK => ?_
     have y0 := b_l HX 0 rfl
     have y1 := b_l HX 1 rfl
     have f0 := b_z HX 0
     have f1 := b_z HX 1
     refine s_k ((wdx1x2.setCell ⟨b2, 0, none⟩ (.int .i64 h2)).setCell ⟨b2, 1, none⟩ (.int .u64 l2)) ?_
     obtain ⟨q, qb⟩ := two_set rfl HX.out g2 HB.out (.int .i64 h2) (.int .u64 l2)
     have q4 := blk_far (blk_far HY.out (p := ⟨b2, 0, none⟩) ne (.int .i64 h2)) (p := ⟨b2, 1, none⟩) ne (.int .u64 l2)
     clear y0 y1 f0 f1 hHeld HX HY HB
     generalize (wdx1x2.setCell ⟨b2, 0, none⟩ (.int .i64 h2)).setCell ⟨b2, 1, none⟩ (.int .u64 l2) = wdx1x2x3 at q qb q4 ⊢
     have HX := am q
     have HY := am q4
     have HB := am qb
     clear q q4 qb
     refine hK.out _ _ trivial (fun hHeld => ?_)
     clear hK K
     refine d_n ?_
     have y0 := b_l HX 0 rfl
     have y1 := b_l HX 1 rfl
     have z0 := b_l HY 0 rfl
     have z1 := b_l HY 1 rfl
     have f0 := b_z HY 0
     have f1 := b_z HY 1
     go_wp2_with fail
     obtain ⟨q, qb⟩ := two_set rfl HY.out g4 HB.out (.int .i64 h2) (.int .u64 l2)
     refine bodyPost_ret (results_ct rfl _ _ b4 124 _ (0, 0) _ rfl q Tryz.underlying124 rfl (by kernel_rfl)) rfl ⟨?_, qb⟩
     rw [HR.out]
     rfl
    skip
    refine g_s Tryz.func79 #[.int .i64 1] ?_
    refine (wide_Of.calls 1 0 1 wd rfl).mono ?_
    rintro e wdx1 ⟨rfl, hb⟩
    replace HX := b_b HX hb
    replace HY := b_b HY hb
    replace HB := b_s HB hb
    clear hb hHeld
    refine ⟨_, rfl, ?_⟩
    refine hK.out _ _ trivial (fun hHeld => ?_)
    clear hK K
    refine n_o 40 ?_
    refine o_n 0 39 4 3 fun K hK => ?_
    have y0 := b_l HX 0 rfl
    have y1 := b_l HX 1 rfl
    refine event_step (v := .agg #[h', .int .u64 l']) (w1 := wdx1) (by rfl) (by first | (go_simp; done) | (go_simp; rfl)) ?_
    clear y0 y1 hHeld
    refine hK.out _ _ trivial (fun hHeld => ?_)
    clear hK K
    refine n_o 39 ?_
    refine o_n 2 41 4 7 fun K hK => ?_
    refine g_s Tryz.func123 #[.agg #[h', .int .u64 l'], .agg #[(), .int .u64 1]] ?_
    refine (HP.out wdx1 (HG.out.below HB.out)).mono ?_
    rintro e wdx1x2 ⟨rfl, hb⟩
    replace HX := b_b HX hb
    replace HY := b_b HY hb
    replace HB := b_s HB hb
    clear hb hHeld
    refine ⟨_, rfl, ?_⟩
    refine hK.out _ _ trivial (fun hHeld => ?_)
    clear hK K
    refine n_o 41 ?_
    refine o_0 3 4 15 fun K hK => ?_
    have y0 := b_l HX 0 rfl
    have y1 := b_l HX 1 rfl
    have f0 := b_z HX 0
    have f1 := b_z HX 1
    refine s_k ((wdx1x2.setCell ⟨b2, 0, none⟩ (.int .i64 h2)).setCell ⟨b2, 1, none⟩ (.int .u64 l2)) ?_
    obtain ⟨q, qb⟩ := two_set rfl HX.out g2 HB.out (.int .i64 h2) (.int .u64 l2)
    have q4 := blk_far (blk_far HY.out (p := ⟨b2, 0, none⟩) ne (.int .i64 h2)) (p := ⟨b2, 1, none⟩) ne (.int .u64 l2)
    clear y0 y1 f0 f1 hHeld HX HY HB
    generalize (wdx1x2.setCell ⟨b2, 0, none⟩ (.int .i64 h2)).setCell ⟨b2, 1, none⟩ (.int .u64 l2) = wdx1x2x3 at q qb q4 ⊢
    have HX := am q
    have HY := am q4
    have HB := am qb
    clear q q4 qb
    refine hK.out _ _ trivial (fun hHeld => ?_)
    clear hK K
    refine d_n ?_
    have y0 := b_l HX 0 rfl
    have y1 := b_l HX 1 rfl
    have z0 := b_l HY 0 rfl
    have z1 := b_l HY 1 rfl
    have f0 := b_z HY 0
    have f1 := b_z HY 1
    go_wp2_with fail
    obtain ⟨q, qb⟩ := two_set rfl HY.out g4 HB.out (.int .i64 h2) (.int .u64 l2)
    refine bodyPost_ret (results_ct rfl _ _ b4 124 _ (0, 0) _ rfl q Tryz.underlying124 rfl (by kernel_rfl)) rfl ⟨?_, qb⟩
    rw [HR.out]
    rfl
   have p3 : (Go.bits .and .u64 l' 1 == 1) = false := by simp [t1]
   have p3' : decide (Go.bits .and .u64 l' 1 = 1) = false := decide_eq_false t1
   have HR := am (show R = (h', l') by rw [HRR.out, HU.out, p1, p2, p3]; rfl)
   clear y1
   have y0 := b_l HX 0 rfl
   have y1 := b_l HX 1 rfl
   have z0 := b_l HY 0 rfl
   have z1 := b_l HY 1 rfl
   have f0 := b_z HY 0
   have f1 := b_z HY 1
   go_wp2_with fail
   obtain ⟨q, qb⟩ := two_set rfl HY.out g4 HB.out (.int .i64 h') (.int .u64 l')
   refine bodyPost_ret (results_ct rfl _ _ b4 124 _ (0, 0) _ rfl q Tryz.underlying124 rfl (by kernel_rfl)) rfl ⟨?_, qb⟩
   rw [HR.out]
   rfl
  have p1 : (la == 1) = false := by simp [a1]
  have p1' : decide (la = 1) = false := decide_eq_false a1
  have HR := am (show R = (h', l') by rw [HRR.out, HU.out, p1]; rfl)
  clear y1
  have y0 := b_l HX 0 rfl
  have y1 := b_l HX 1 rfl
  have z0 := b_l HY 0 rfl
  have z1 := b_l HY 1 rfl
  have f0 := b_z HY 0
  have f1 := b_z HY 1
  go_wp2_with fail
  obtain ⟨q, qb⟩ := two_set rfl HY.out g4 HB.out (.int .i64 h') (.int .u64 l')
  refine bodyPost_ret (results_ct rfl _ _ b4 124 _ (0, 0) _ rfl q Tryz.underlying124 rfl (by kernel_rfl)) rfl ⟨?_, qb⟩
  rw [HR.out]
  rfl
theorem wadd_fn : ∃ F : Int → Int → Int → Int → Int × Int × Int, ∀ a b c d, U b → U d → U (F a b c d).2.1 ∧ Tells 130 #[wide a b, wide c d] (.tuple #[wide (F a b c d).1 (F a b c d).2.1, .int .i64 (F a b c d).2.2]) := by
 have key : ∀ a b c d : Int, ∃ r : Int × Int × Int, U b → U d → U r.2.1 ∧ Tells 130 #[wide a b, wide c d] (.tuple #[wide r.1 r.2.1, .int .i64 r.2.2]) := by
  intro a b c d
  by_cases h : U b ∧ U d
  ·
   obtain ⟨x, y, e, hu, ht⟩ := wadd_tells a b c d h.1 h.2
   exact ⟨(x, y, e), fun _ _ => ⟨hu, ht⟩⟩
  exact ⟨(0, 0, 0), fun h1 h2 => absurd ⟨h1, h2⟩ h⟩
 exact ⟨fun a b c d => (key a b c d).choose, fun a b c d => (key a b c d).choose_spec⟩
theorem first_of (p : Nat → Bool) : ∀ n, (∀ k, k < n → p k = false) ∨ ∃ k, k < n ∧ p k = true ∧ ∀ j, j < k → p j = false
 | 0 => .inl (fun k h => by omega)
 | n + 1 => by
  rcases first_of p n with h | ⟨k, h1, h2, h3⟩
  ·
   cases hn : p n with
   | true => exact .inr ⟨n, by omega, hn, h⟩
   | false => exact .inl (fun k hk => by
     rcases Nat.eq_or_lt_of_le (Nat.le_of_lt_succ hk) with e | e
     ·
      rw [e]; exact hn
     exact h k e)
  exact .inr ⟨k, by omega, h2, h3⟩
def upN (F : Int → Int → Int → Int → Int × Int × Int) (h l : Int) : Nat → Int × Int
 | 0 => (h, l)
 | n + 1 => ((F (upN F h l n).1 (upN F h l n).2 (upN F h l n).1 (upN F h l n).2).1, (F (upN F h l n).1 (upN F h l n).2 (upN F h l n).1 (upN F h l n).2).2.1)
def upE (F : Int → Int → Int → Int → Int × Int × Int) (h l : Int) (n : Nat) : Int := (F (upN F h l n).1 (upN F h l n).2 (upN F h l n).1 (upN F h l n).2).2.2
set_option maxRecDepth 100000 in
set_option maxHeartbeats 4000000 in
theorem up_tells (h l n : Int) (hl : U l) (h0 : 0 ≤ n) (h1 : n ≤ 127) : ∃ h' l' e, U l' ∧ Tells 107 #[wide h l, n] (.tuple #[wide h' l', .int .i64 e]) := by
 obtain ⟨F, hF⟩ := wadd_fn
 have hu : ∀ k, U (upN F h l k).2 := fun k => by
  induction k with
  | zero => exact hl
  | succ k ih => exact (hF _ _ _ _ ih ih).1
 have HU := am hu
 have HA := am hF
 rcases first_of (fun k => !(upE F h l k == 0)) n.toNat with hz | ⟨m, hm, hm1, hm2⟩
 ·
  have HZ := am (show ∀ k, k < n.toNat → upE F h l k = 0 from fun k hk => by simpa using hz k hk)
  refine ⟨(upN F h l n.toNat).1, (upN F h l n.toNat).2, 0, hu _, fun w hG => ?_⟩
  clear hz hu hF hl
  have HG := am hG
  clear hG
  have e1 : decide (n < 0) = false := decide_eq_false (by omega)
  have e2 : decide (127 < n) = false := decide_eq_false (by omega)
  unfold wide at HA ⊢
  go_enter Tryz.func107, Tryz.ntmps107
  go_upto_region 1 with fail
  obtain ⟨x2, x3, hB⟩ := blocks2 w #[h, .int .u64 l] #[(), .int .u64 0] 124 124
  generalize (w.alloc (.cells #[h, .int .u64 l] 124)).alloc (.cells #[(), .int .u64 0] 124) = w1 at x2 x3 hB ⊢
  obtain ⟨b2, h2'⟩ : ∃ b, b = w.heap.size := ⟨_, rfl⟩
  obtain ⟨b4, h4'⟩ : ∃ b, b = w.heap.size + 1 := ⟨_, rfl⟩
  have g2 : w.heap.size ≤ b2 := by omega
  have g4 : w.heap.size ≤ b4 := by omega
  have ne : b4 ≠ b2 := by omega
  rw [← h4', ← h2']
  rw [← h4'] at x3
  rw [← h2'] at x2
  have HX := am x2
  have HY := am x3
  have HB := am hB
  clear x2 x3 hB h2' h4'
  go_wp2_with fail
  go_loopw [15] (fun v15 wr => ∃ k : Nat, k ≤ n.toNat ∧ v15 = .int .i64 k ∧ Aside0 (wr.heap[b2]? = some (.cells #[.int .i64 (upN F h l k).1, .int .u64 (upN F h l k).2] 124 (0, 0))) ∧ Aside0 (wr.heap[b4]? = some (.cells #[(), .int .u64 0] 124 (0, 0))) ∧ Aside0 (Below w.heap.size w wr)) (fun v15 _ => n.toNat + 1 - (intOf v15).toNat)
  case atStart => exact ⟨0, by omega, rfl, HX, HY, HB⟩
  case round =>
   clear HX HY HB
   obtain ⟨k, hk, rfl, HX, HY, HB⟩ := hrel
   by_cases hlt : k < n.toNat
   ·
    have q0 : decide ((k : Int) < n) = true := decide_eq_true (by omega)
    obtain ⟨_, ht⟩ := HA.out (upN F h l k).1 (upN F h l k).2 (upN F h l k).1 (upN F h l k).2 (HU.out k) (HU.out k)
    have HT := am ht
    have HS := am (show upN F h l (k + 1) = ((F (upN F h l k).1 (upN F h l k).2 (upN F h l k).1 (upN F h l k).2).1, (F (upN F h l k).1 (upN F h l k).2 (upN F h l k).1 (upN F h l k).2).2.1) from rfl)
    have HEE := am (show upE F h l k = (F (upN F h l k).1 (upN F h l k).2 (upN F h l k).1 (upN F h l k).2).2.2 from rfl)
    clear ht
    generalize F (upN F h l k).1 (upN F h l k).2 (upN F h l k).1 (upN F h l k).2 = fr at HT HS HEE
    obtain ⟨fh, fl, fe⟩ := fr
    generalize upN F h l k = sk at HX HT
    obtain ⟨ph, pl⟩ := sk
    have y0 := b_l HX 0 rfl
    have y1 := b_l HX 1 rfl
    go_wp2_with fail
    refine (HT.out wr (HG.out.below HB.out)).mono ?_
    rintro e w2 ⟨rfl, hb⟩
    replace HX := b_b HX hb
    replace HY := b_b HY hb
    replace HB := b_s HB hb
    clear hb y0 y1
    have y0 := b_l HX 0 rfl
    have y1 := b_l HX 1 rfl
    have f0 := b_z HX 0
    have f1 := b_z HX 1
    go_upto_region 7 with fail
    obtain ⟨q, qb⟩ := two_set rfl HX.out g2 HB.out (.int .i64 fh) (.int .u64 fl)
    have q4 := blk_far (blk_far HY.out (p := ⟨b2, 0, none⟩) ne (.int .i64 fh)) (p := ⟨b2, 1, none⟩) ne (.int .u64 fl)
    clear y0 y1 f0 f1
    generalize (w2.setCell ⟨b2, 0, none⟩ (.int .i64 fh)).setCell ⟨b2, 1, none⟩ (.int .u64 fl) = w3 at q qb q4 ⊢
    have he : fe = 0 := HEE.out.symm.trans (HZ.out k hlt)
    subst he
    go_wp2_with fail
    go_roundw
    case rel => exact ⟨k + 1, hlt, rfl, ⟨by rw [HS.out]; exact q⟩, ⟨q4⟩, ⟨qb⟩⟩
    case measure =>
     show n.toNat + 1 - ((k : Int) + 1).toNat < n.toNat + 1 - (k : Int).toNat
     omega
   have q0 : decide ((k : Int) < n) = false := decide_eq_false (by omega)
   obtain rfl : k = n.toNat := by omega
   obtain ⟨sk, hsk⟩ : ∃ sk, sk = upN F h l n.toNat := ⟨_, rfl⟩
   rw [← hsk] at HX
   have HSK := am hsk
   clear hsk
   obtain ⟨ph, pl⟩ := sk
   have y0 := b_l HX 0 rfl
   have y1 := b_l HX 1 rfl
   have z0 := b_l HY 0 rfl
   have z1 := b_l HY 1 rfl
   have f0 := b_z HY 0
   have f1 := b_z HY 1
   clear hk hlt
   go_wp2_with fail
   obtain ⟨q, qb⟩ := two_set rfl HY.out g4 HB.out (.int .i64 ph) (.int .u64 pl)
   refine bodyPost_ret (results_ct rfl _ _ b4 124 _ (0, 0) _ rfl q Tryz.underlying124 rfl (by kernel_rfl)) rfl ⟨?_, qb⟩
   rw [← HSK.out]
   rfl
 have HZ := am (show ∀ k, k < m → upE F h l k = 0 from fun k hk => by simpa using hm2 k hk)
 have HM := am (show upE F h l m ≠ 0 by simpa using hm1)
 obtain ⟨em, hem⟩ : ∃ em, em = upE F h l m := ⟨_, rfl⟩
 have HEM := am hem
 refine ⟨0, 0, em, ⟨by decide, by decide⟩, fun w hG => ?_⟩
 clear hm1 hm2 hu hF hl hem
 have HG := am hG
 clear hG
 have e1 : decide (n < 0) = false := decide_eq_false (by omega)
 have e2 : decide (127 < n) = false := decide_eq_false (by omega)
 unfold wide at HA ⊢
 go_enter Tryz.func107, Tryz.ntmps107
 go_upto_region 1 with fail
 obtain ⟨x2, x3, hB⟩ := blocks2 w #[h, .int .u64 l] #[(), .int .u64 0] 124 124
 generalize (w.alloc (.cells #[h, .int .u64 l] 124)).alloc (.cells #[(), .int .u64 0] 124) = w1 at x2 x3 hB ⊢
 obtain ⟨b2, h2'⟩ : ∃ b, b = w.heap.size := ⟨_, rfl⟩
 obtain ⟨b4, h4'⟩ : ∃ b, b = w.heap.size + 1 := ⟨_, rfl⟩
 have g2 : w.heap.size ≤ b2 := by omega
 have g4 : w.heap.size ≤ b4 := by omega
 have ne : b4 ≠ b2 := by omega
 rw [← h4', ← h2']
 rw [← h4'] at x3
 rw [← h2'] at x2
 have HX := am x2
 have HY := am x3
 have HB := am hB
 clear x2 x3 hB h2' h4'
 go_wp2_with fail
 go_loopw [15] (fun v15 wr => ∃ k : Nat, k ≤ m ∧ v15 = .int .i64 k ∧ Aside0 (wr.heap[b2]? = some (.cells #[.int .i64 (upN F h l k).1, .int .u64 (upN F h l k).2] 124 (0, 0))) ∧ Aside0 (wr.heap[b4]? = some (.cells #[(), .int .u64 0] 124 (0, 0))) ∧ Aside0 (Below w.heap.size w wr)) (fun v15 _ => n.toNat + 1 - (intOf v15).toNat)
 case atStart => exact ⟨0, by omega, rfl, HX, HY, HB⟩
 case round =>
  clear HX HY HB
  obtain ⟨k, hk, rfl, HX, HY, HB⟩ := hrel
  have q0 : decide ((k : Int) < n) = true := decide_eq_true (by omega)
  by_cases hlt : k < m
  ·
   obtain ⟨_, ht⟩ := HA.out (upN F h l k).1 (upN F h l k).2 (upN F h l k).1 (upN F h l k).2 (HU.out k) (HU.out k)
   have HT := am ht
   have HS := am (show upN F h l (k + 1) = ((F (upN F h l k).1 (upN F h l k).2 (upN F h l k).1 (upN F h l k).2).1, (F (upN F h l k).1 (upN F h l k).2 (upN F h l k).1 (upN F h l k).2).2.1) from rfl)
   have HEE := am (show upE F h l k = (F (upN F h l k).1 (upN F h l k).2 (upN F h l k).1 (upN F h l k).2).2.2 from rfl)
   clear ht
   generalize F (upN F h l k).1 (upN F h l k).2 (upN F h l k).1 (upN F h l k).2 = fr at HT HS HEE
   obtain ⟨fh, fl, fe⟩ := fr
   generalize upN F h l k = sk at HX HT
   obtain ⟨ph, pl⟩ := sk
   have y0 := b_l HX 0 rfl
   have y1 := b_l HX 1 rfl
   go_wp2_with fail
   refine (HT.out wr (HG.out.below HB.out)).mono ?_
   rintro e w2 ⟨rfl, hb⟩
   replace HX := b_b HX hb
   replace HY := b_b HY hb
   replace HB := b_s HB hb
   clear hb y0 y1
   have y0 := b_l HX 0 rfl
   have y1 := b_l HX 1 rfl
   have f0 := b_z HX 0
   have f1 := b_z HX 1
   go_upto_region 7 with fail
   obtain ⟨q, qb⟩ := two_set rfl HX.out g2 HB.out (.int .i64 fh) (.int .u64 fl)
   have q4 := blk_far (blk_far HY.out (p := ⟨b2, 0, none⟩) ne (.int .i64 fh)) (p := ⟨b2, 1, none⟩) ne (.int .u64 fl)
   clear y0 y1 f0 f1
   generalize (w2.setCell ⟨b2, 0, none⟩ (.int .i64 fh)).setCell ⟨b2, 1, none⟩ (.int .u64 fl) = w3 at q qb q4 ⊢
   have he : fe = 0 := HEE.out.symm.trans (HZ.out k hlt)
   subst he
   go_wp2_with fail
   go_roundw
   case rel => exact ⟨k + 1, hlt, rfl, ⟨by rw [HS.out]; exact q⟩, ⟨q4⟩, ⟨qb⟩⟩
   case measure =>
    show n.toNat + 1 - ((k : Int) + 1).toNat < n.toNat + 1 - (k : Int).toNat
    omega
  obtain rfl : k = m := by omega
  obtain ⟨_, ht⟩ := HA.out (upN F h l k).1 (upN F h l k).2 (upN F h l k).1 (upN F h l k).2 (HU.out k) (HU.out k)
  have HT := am ht
  have HS := am (show upN F h l (k + 1) = ((F (upN F h l k).1 (upN F h l k).2 (upN F h l k).1 (upN F h l k).2).1, (F (upN F h l k).1 (upN F h l k).2 (upN F h l k).1 (upN F h l k).2).2.1) from rfl)
  have HEE := am (show upE F h l k = (F (upN F h l k).1 (upN F h l k).2 (upN F h l k).1 (upN F h l k).2).2.2 from rfl)
  clear ht
  generalize F (upN F h l k).1 (upN F h l k).2 (upN F h l k).1 (upN F h l k).2 = fr at HT HS HEE
  obtain ⟨fh, fl, fe⟩ := fr
  generalize upN F h l k = sk at HX HT
  obtain ⟨ph, pl⟩ := sk
  have y0 := b_l HX 0 rfl
  have y1 := b_l HX 1 rfl
  go_wp2_with fail
  refine (HT.out wr (HG.out.below HB.out)).mono ?_
  rintro e w2 ⟨rfl, hb⟩
  replace HX := b_b HX hb
  replace HY := b_b HY hb
  replace HB := b_s HB hb
  clear hb y0 y1
  have y0 := b_l HX 0 rfl
  have y1 := b_l HX 1 rfl
  have f0 := b_z HX 0
  have f1 := b_z HX 1
  go_upto_region 7 with fail
  obtain ⟨q, qb⟩ := two_set rfl HX.out g2 HB.out (.int .i64 fh) (.int .u64 fl)
  have q4 := blk_far (blk_far HY.out (p := ⟨b2, 0, none⟩) ne (.int .i64 fh)) (p := ⟨b2, 1, none⟩) ne (.int .u64 fl)
  clear y0 y1 f0 f1
  generalize (w2.setCell ⟨b2, 0, none⟩ (.int .i64 fh)).setCell ⟨b2, 1, none⟩ (.int .u64 fl) = w3 at q qb q4 ⊢
  have he : ¬ (fe = 0) := fun e => HM.out (HEE.out.trans e)
  have he1 : (fe == 0) = false := by simp [he]
  have he2 : decide (fe = 0) = false := decide_eq_false he
  have z0 := bcl q4 0 rfl
  have z1 := bcl q4 1 rfl
  have f0 := bfz q4 0
  have f1 := bfz q4 1
  have hn := (HG.out.below qb).none0
  have hn1 := (HG.out.below qb).none1
  have Q4 := am q4
  have QB := am qb
  clear q q4 qb hk hlt hm
  go_wp2_with fail
  obtain ⟨q, qb⟩ := two_set rfl Q4.out g4 QB.out (.int .i64 0) (.int .u64 0)
  refine bodyPost_ret (results_ct rfl _ _ b4 124 _ (0, 0) _ rfl q Tryz.underlying124 rfl (by kernel_rfl)) rfl ⟨?_, qb⟩
  rw [HEM.out, HEE.out]
  rfl
set_option maxRecDepth 100000 in
set_option maxHeartbeats 4000000 in
theorem bothw_tells (a b : Int) (d : Nat) (hc : ∀ args w, (callFunc d args).run Tryz.prog w = .ok (.enter d args) w) (hd : ∃ h l e, U l ∧ Tells d #[a, b] (.tuple #[wide h l, .int .i64 e])) :
  ∃ x e, Tells 146 #[.int .i64 a, .int .i64 b, .func (.func d) #[] #[], .func (.func 80) #[] #[]] (Ch.two x e) := by
 obtain ⟨h, l, e0, hu, hd⟩ := hd
 obtain ⟨x0, e1, hi⟩ := int_tells h l
 have HD := am hd
 have HI := am hi
 clear hd hi
 unfold wide Ch.two at HI
 unfold Ch.two
 cases ha : fits a with
 | false =>
  have HA := am ha
  clear ha
  refine ⟨0, 1, fun w hG => ?_⟩
  go_enter Tryz.func146, Tryz.ntmps146
  go_wp2_with fail
  refine (fits_any w a).mono ?_
  rintro e w1 ⟨rfl, rfl⟩
  rw [HA.out]
  go_wp2_with fail
  go_ret2
  exact ⟨rfl, Below.refl _ _⟩
 | true =>
  have HA := am ha
  clear ha
  cases hb : fits b with
  | false =>
   have HBB := am hb
   clear hb
   refine ⟨0, 1, fun w hG => ?_⟩
   go_enter Tryz.func146, Tryz.ntmps146
   go_wp2_with fail
   refine (fits_any w a).mono ?_
   rintro e w1 ⟨rfl, rfl⟩
   rw [HA.out]
   go_wp2_with fail
   refine (fits_any _ b).mono ?_
   rintro e w2 ⟨rfl, rfl⟩
   rw [HBB.out]
   go_wp2_with fail
   go_ret2
   exact ⟨rfl, Below.refl _ _⟩
  | true =>
   have HBB := am hb
   clear hb
   by_cases h0 : e0 = 0
   ·
    subst h0
    by_cases h1 : e1 = 0
    ·
     subst h1
     cases hx : fits x0 with
     | false =>
      have HX := am hx
      clear hx
      refine ⟨0, 3, fun w hG => ?_⟩
      have HG := am hG
      clear hG
      unfold wide at HD
      go_enter Tryz.func146, Tryz.ntmps146
      go_wp2_with fail
      refine (fits_any w a).mono ?_
      rintro e w1 ⟨rfl, rfl⟩
      rw [HA.out]
      go_wp2_with fail
      refine (fits_any _ b).mono ?_
      rintro e w2 ⟨rfl, rfl⟩
      rw [HBB.out]
      go_wp2_with fail
      refine (HD.out _ HG.out).mono ?_
      rintro e w3 ⟨rfl, hb⟩
      have HB := am hb
      clear hb
      go_upto_region 4 with fail
      have HY := am (blk_new w3 (.cells #[h, .int .u64 l] 124))
      replace HB := am (below_alloc HB.out (.cells #[h, .int .u64 l] 124))
      generalize w3.alloc (.cells #[h, .int .u64 l] 124) = w4 at HY HB ⊢
      generalize w3.heap.size = b10 at HY ⊢
      have y0 := b_l HY 0 rfl
      have y1 := b_l HY 1 rfl
      go_wp2_with fail
      refine (HI.out w4 (HG.out.below HB.out)).mono ?_
      rintro e w5 ⟨rfl, hb⟩
      replace HB := b_s HB hb
      clear hb y0 y1 HY
      go_wp2_with fail
      refine (fits_any _ x0).mono ?_
      rintro e w6 ⟨rfl, rfl⟩
      rw [HX.out]
      go_wp2_with fail
      go_ret2
      exact ⟨rfl, HB.out⟩
     | true =>
      have HX := am hx
      clear hx
      refine ⟨x0, 0, fun w hG => ?_⟩
      have HG := am hG
      clear hG
      unfold wide at HD
      go_enter Tryz.func146, Tryz.ntmps146
      go_wp2_with fail
      refine (fits_any w a).mono ?_
      rintro e w1 ⟨rfl, rfl⟩
      rw [HA.out]
      go_wp2_with fail
      refine (fits_any _ b).mono ?_
      rintro e w2 ⟨rfl, rfl⟩
      rw [HBB.out]
      go_wp2_with fail
      refine (HD.out _ HG.out).mono ?_
      rintro e w3 ⟨rfl, hb⟩
      have HB := am hb
      clear hb
      go_upto_region 4 with fail
      have HY := am (blk_new w3 (.cells #[h, .int .u64 l] 124))
      replace HB := am (below_alloc HB.out (.cells #[h, .int .u64 l] 124))
      generalize w3.alloc (.cells #[h, .int .u64 l] 124) = w4 at HY HB ⊢
      generalize w3.heap.size = b10 at HY ⊢
      have y0 := b_l HY 0 rfl
      have y1 := b_l HY 1 rfl
      go_wp2_with fail
      refine (HI.out w4 (HG.out.below HB.out)).mono ?_
      rintro e w5 ⟨rfl, hb⟩
      replace HB := b_s HB hb
      clear hb y0 y1 HY
      go_wp2_with fail
      refine (fits_any _ x0).mono ?_
      rintro e w6 ⟨rfl, rfl⟩
      rw [HX.out]
      go_wp2_with fail
      go_ret2
      exact ⟨rfl, HB.out⟩
    have q1 : (e1 == 0) = false := by simp [h1]
    have q2 : decide (e1 = 0) = false := decide_eq_false h1
    refine ⟨0, 3, fun w hG => ?_⟩
    have HG := am hG
    clear hG
    unfold wide at HD
    go_enter Tryz.func146, Tryz.ntmps146
    go_wp2_with fail
    refine (fits_any w a).mono ?_
    rintro e w1 ⟨rfl, rfl⟩
    rw [HA.out]
    go_wp2_with fail
    refine (fits_any _ b).mono ?_
    rintro e w2 ⟨rfl, rfl⟩
    rw [HBB.out]
    go_wp2_with fail
    refine (HD.out _ HG.out).mono ?_
    rintro e w3 ⟨rfl, hb⟩
    have HB := am hb
    clear hb
    go_upto_region 4 with fail
    have HY := am (blk_new w3 (.cells #[h, .int .u64 l] 124))
    replace HB := am (below_alloc HB.out (.cells #[h, .int .u64 l] 124))
    generalize w3.alloc (.cells #[h, .int .u64 l] 124) = w4 at HY HB ⊢
    generalize w3.heap.size = b10 at HY ⊢
    have y0 := b_l HY 0 rfl
    have y1 := b_l HY 1 rfl
    go_wp2_with fail
    refine (HI.out w4 (HG.out.below HB.out)).mono ?_
    rintro e w5 ⟨rfl, hb⟩
    replace HB := b_s HB hb
    clear hb y0 y1 HY
    go_wp2_with fail
    go_ret2
    exact ⟨rfl, HB.out⟩
   have q1 : (e0 == 0) = false := by simp [h0]
   have q2 : decide (e0 = 0) = false := decide_eq_false h0
   refine ⟨0, e0, fun w hG => ?_⟩
   have HG := am hG
   clear hG
   unfold wide at HD
   go_enter Tryz.func146, Tryz.ntmps146
   go_wp2_with fail
   refine (fits_any w a).mono ?_
   rintro e w1 ⟨rfl, rfl⟩
   rw [HA.out]
   go_wp2_with fail
   refine (fits_any _ b).mono ?_
   rintro e w2 ⟨rfl, rfl⟩
   rw [HBB.out]
   go_wp2_with fail
   refine (HD.out _ HG.out).mono ?_
   rintro e w3 ⟨rfl, hb⟩
   have HB := am hb
   clear hb
   go_upto_region 4 with fail
   have HY := am (blk_new w3 (.cells #[h, .int .u64 l] 124))
   replace HB := am (below_alloc HB.out (.cells #[h, .int .u64 l] 124))
   generalize w3.alloc (.cells #[h, .int .u64 l] 124) = w4 at HY HB ⊢
   generalize w3.heap.size = b10 at HY ⊢
   have y0 := b_l HY 0 rfl
   have y1 := b_l HY 1 rfl
   go_wp2_with fail
   go_ret2
   exact ⟨rfl, HB.out⟩
set_option maxRecDepth 100000 in
set_option maxHeartbeats 4000000 in
theorem mul1_tells (a b : Int) : ∃ h l e, U l ∧ Tells 147 #[a, b] (.tuple #[wide h l, .int .i64 e]) := by
 obtain ⟨h, l, hu, hm⟩ := mul_tells a b
 obtain ⟨h', l', hu', hh⟩ := half_tells h l 40 hu (by decide) (by decide)
 refine ⟨h', l', 0, hu', fun w hG => ?_⟩
 have HM := am hm
 have HH := am hh
 have HG := am hG
 clear hm hh hG
 unfold wide at HM HH ⊢
 go_enter Tryz.func147, Tryz.ntmps147
 go_upto_region 1 with fail
 have HY := am (blk_new w (.cells #[(), .int .u64 0] 124))
 have HB := am (below_alloc (Below.refl w.heap.size w) (.cells #[(), .int .u64 0] 124))
 generalize w.alloc (.cells #[(), .int .u64 0] 124) = w1 at HY HB ⊢
 obtain ⟨b4, h4⟩ := e_x (w.heap.size)
 have g4 : w.heap.size ≤ b4 := by omega
 rw [← h4] at HY ⊢
 clear h4
 go_wp2_with fail
 refine (HM.out w1 (HG.out.below HB.out)).mono ?_
 rintro e w2 ⟨rfl, hb⟩
 replace HY := b_b HY hb
 replace HB := b_s HB hb
 clear hb
 go_wp2_with fail
 refine (HH.out w2 (HG.out.below HB.out)).mono ?_
 rintro e w3 ⟨rfl, hb⟩
 replace HY := b_b HY hb
 replace HB := b_s HB hb
 clear hb
 have z0 := b_l HY 0 rfl
 have z1 := b_l HY 1 rfl
 have f0 := b_z HY 0
 have f1 := b_z HY 1
 go_wp2_with fail
 obtain ⟨q, qb⟩ := two_set rfl HY.out g4 HB.out (.int .i64 h') (.int .u64 l')
 exact bodyPost_ret (results_ct rfl _ _ b4 124 _ (0, 0) _ rfl q Tryz.underlying124 rfl (by kernel_rfl)) rfl ⟨rfl, qb⟩
set_option maxRecDepth 100000 in
set_option maxHeartbeats 4000000 in
theorem fmul_tells (a b : Int) : ∃ x e, Tells 116 #[a, b] (Ch.two x e) := by
 obtain ⟨x, e, h⟩ := bothw_tells a b 147 (fun _ _ => by kernel_rfl) (mul1_tells a b)
 refine ⟨x, e, fun w hG => ?_⟩
 have H := am (h w hG)
 clear h hG
 go_enter Tryz.func116, Tryz.ntmps116
 go_wp2_with fail
 refine H.out.mono ?_
 rintro e w1 ⟨rfl, hb⟩
 unfold Ch.two
 go_wp2_with fail
 go_ret2
 exact ⟨rfl, hb⟩
end Go.Proofs.YtpdahkgandaabaaGreatDoor.Ch
