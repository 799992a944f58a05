/- A part of the proof of TopAgain, where the package's tables hold what their initialisers lay. -/
import Derived.Test.YtpdahkgandaabaaGreatDoorT01
import Derived.Test.YtpdahkgandaabaaGreatDoorT06
import Derived.Test.YtpdahkgandaabaaGreatDoorT08
import Derived.Test.YtpdahkgandaabaaGreatDoorT10
import Derived.Test.YtpdahkgandaabaaGreatDoorT12
import Derived.Test.YtpdahkgandaabaaGreatDoorT14
namespace Go.Proofs.YtpdahkgandaabaaGreatDoor.Ch
open Go.RowKit Go.Proofs.YtpdahkgandaabaaGreatDoorW.PrintWords Go.Proofs.YtpdahkgandaabaaGreatDoorW.PrintLast Go.Proofs.YtpdahkgandaabaaGreatDoorW.PrintMore Go.Proofs.YtpdahkgandaabaaGreatDoor.PTopNames Go.Proofs.YtpdahkgandaabaaGreatDoor.Al
set_option linter.unusedVariables false
set_option linter.unusedSimpArgs false
def rowS (X : Nat → Int) (c : Nat) : Array Value := #[.int .i64 (if 0 < c then X 0 else 0), .int .i64 (if 1 < c then X 1 else 0), .int .i64 (if 2 < c then X 2 else 0), .int .i64 (if 3 < c then X 3 else 0), .int .i64 (if 4 < c then X 4 else 0), .int .i64 (if 5 < c then X 5 else 0)]
theorem rowS_set (X : Nat → Int) {c : Int} (h0 : 0 ≤ c) (h1 : c < 6) : (rowS X c.toNat).setIfInBounds c.toNat (.int .i64 (X c.toNat)) = rowS X (c.toNat + 1) := by
 obtain rfl | rfl | rfl | rfl | rfl | rfl : c = 0 ∨ c = 1 ∨ c = 2 ∨ c = 3 ∨ c = 4 ∨ c = 5 := by omega
 all_goals simp [rowS]
theorem index6 (R : Nat → Wd) {c : Int} (h0 : 0 ≤ c) (h1 : c < 6) (w : World) : (Instr.index 143 (.agg #[.int .i64 (R 0).1.1, .int .u64 (R 0).1.2, .int .i64 (R 1).1.1, .int .u64 (R 1).1.2, .int .i64 (R 2).1.1, .int .u64 (R 2).1.2, .int .i64 (R 3).1.1, .int .u64 (R 3).1.2, .int .i64 (R 4).1.1, .int .u64 (R 4).1.2, .int .i64 (R 5).1.1, .int .u64 (R 5).1.2]) (.int .i64 c)).run Tryz.prog w = .ok (.agg #[.int .i64 (R c.toNat).1.1, .int .u64 (R c.toNat).1.2]) w := by
 obtain rfl | rfl | rfl | rfl | rfl | rfl : c = 0 ∨ c = 1 ∨ c = 2 ∨ c = 3 ∨ c = 4 ∨ c = 5 := by omega
 all_goals kernel_rfl
theorem halves_ex (R : Nat → Wd) : ∃ (H : Nat → Wd) (X E : Nat → Int), ∀ k, Tells 78 #[wide (R k).1.1 (R k).1.2, .int .i64 30] (.tuple #[wide (H k).1.1 (H k).1.2, ()]) ∧ Tells 80 #[wide (H k).1.1 (H k).1.2] (Ch.two (X k) (E k)) := by
 obtain ⟨f, hf⟩ := pick (R := fun (k : Nat) (q : Wd × Int × Int) => Tells 78 #[wide (R k).1.1 (R k).1.2, .int .i64 30] (.tuple #[wide q.1.1.1 q.1.1.2, ()]) ∧ Tells 80 #[wide q.1.1.1 q.1.1.2] (Ch.two q.2.1 q.2.2)) (fun k => by
  obtain ⟨h, l, hu, ht⟩ := half_tells (R k).1.1 (R k).1.2 30 (R k).2 (by decide) (by decide)
  obtain ⟨x, e, hx⟩ := int_tells h l
  exact ⟨(⟨(h, l), hu⟩, x, e), ht, hx⟩)
 exact ⟨fun k => (f k).1, fun k => (f k).2.1, fun k => (f k).2.2, hf⟩
set_option maxRecDepth 100000 in
set_option maxHeartbeats 4000000 in
theorem spon_tells (m0 m1 m2 m3 m4 m5 a0 a1 a2 : Int) : ∃ r0 r1 r2 r3 r4 r5 e, Tells 68 #[sym m0 m1 m2 m3 m4 m5, vec a0 a1 a2] (.tuple #[sym r0 r1 r2 r3 r4 r5, .int .i64 e]) := by
 obtain ⟨R, e0, hraw⟩ := raw_tells m0 m1 m2 m3 m4 m5
 obtain ⟨kv, hv⟩ := vfits_tells a0 a1 a2
 obtain ⟨HF, X, E, hT⟩ := halves_ex R
 obtain ⟨n0, n1, n2, n3, n4, n5, e2, hs⟩ := sadd_tells (X 0) (X 1) (X 2) (X 3) (X 4) (X 5) a0 0 0 a1 0 a2
 have HRaw := am hraw
 have HV := am hv
 have HT := am hT
 have HS := am hs
 clear hraw hv hT hs
 unfold outA at HRaw
 unfold sym vec wide Ch.two at *
 by_cases h0 : e0 = 0
 ·
  subst h0
  cases kv with
  | false =>
   refine ⟨0, 0, 0, 0, 0, 0, 1, fun w hG => ?_⟩
   have HG := am hG
   clear hG
   go_enter Tryz.func68, Tryz.ntmps68
   go_upto_region 1 with fail
   obtain ⟨x2', x3', x4', hB⟩ := blocks3 w #[m0, m1, m2, m3, m4, m5] #[a0, a1, a2] #[(), (), (), (), (), ()] 46 26 46
   generalize ((w.alloc (.cells #[m0, m1, m2, m3, m4, m5] 46)).alloc (.cells #[a0, a1, a2] 26)).alloc (.cells #[(), (), (), (), (), ()] 46) = w1 at x2' x3' x4' hB ⊢
   obtain ⟨b2, h2⟩ := e_x (w.heap.size)
   obtain ⟨b3, h3⟩ := e_x (w.heap.size + 1)
   obtain ⟨b4, h4⟩ := e_x (w.heap.size + 1 + 1)
   have g2 : w.heap.size ≤ b2 := by omega
   have g3 : w.heap.size ≤ b3 := by omega
   have g4 : w.heap.size ≤ b4 := by omega
   have n2_3 : b2 ≠ b3 := by omega
   have n2_4 : b2 ≠ b4 := by omega
   have n3_2 : b3 ≠ b2 := by omega
   have n3_4 : b3 ≠ b4 := by omega
   have n4_2 : b4 ≠ b2 := by omega
   have n4_3 : b4 ≠ b3 := by omega
   rw [← h4, ← h3, ← h2]
   rw [← h4] at x4'
   rw [← h3] at x3'
   rw [← h2] at x2'
   have H2 := am x2'
   have H3 := am x3'
   have H4 := am x4'
   have HB := am hB
   clear x2' x3' x4' hB h2 h3 h4
   have y20 := b_v H2 0 (.int .i64 m0) rfl
   have y21 := b_v H2 1 (.int .i64 m1) rfl
   have y22 := b_v H2 2 (.int .i64 m2) rfl
   have y23 := b_v H2 3 (.int .i64 m3) rfl
   have y24 := b_v H2 4 (.int .i64 m4) rfl
   have y25 := b_v H2 5 (.int .i64 m5) rfl
   go_wp2_with fail
   refine (HRaw.out w1 (HG.out.below HB.out)).mono ?_
   rintro e w2 ⟨rfl, hb⟩
   replace H2 := b_b H2 hb
   replace H3 := b_b H3 hb
   replace H4 := b_b H4 hb
   replace HB := b_s HB hb
   clear y20 y21 y22 y23 y24 y25
   clear hb
   go_upto_region 2 with fail
   replace H2 := am (blk_alloc H2.out (.cells #[.int .i64 (R 0).1.1, .int .u64 (R 0).1.2, .int .i64 (R 1).1.1, .int .u64 (R 1).1.2, .int .i64 (R 2).1.1, .int .u64 (R 2).1.2, .int .i64 (R 3).1.1, .int .u64 (R 3).1.2, .int .i64 (R 4).1.1, .int .u64 (R 4).1.2, .int .i64 (R 5).1.1, .int .u64 (R 5).1.2] 143))
   replace H3 := am (blk_alloc H3.out (.cells #[.int .i64 (R 0).1.1, .int .u64 (R 0).1.2, .int .i64 (R 1).1.1, .int .u64 (R 1).1.2, .int .i64 (R 2).1.1, .int .u64 (R 2).1.2, .int .i64 (R 3).1.1, .int .u64 (R 3).1.2, .int .i64 (R 4).1.1, .int .u64 (R 4).1.2, .int .i64 (R 5).1.1, .int .u64 (R 5).1.2] 143))
   replace H4 := am (blk_alloc H4.out (.cells #[.int .i64 (R 0).1.1, .int .u64 (R 0).1.2, .int .i64 (R 1).1.1, .int .u64 (R 1).1.2, .int .i64 (R 2).1.1, .int .u64 (R 2).1.2, .int .i64 (R 3).1.1, .int .u64 (R 3).1.2, .int .i64 (R 4).1.1, .int .u64 (R 4).1.2, .int .i64 (R 5).1.1, .int .u64 (R 5).1.2] 143))
   have H6 := am (blk_new w2 (.cells #[.int .i64 (R 0).1.1, .int .u64 (R 0).1.2, .int .i64 (R 1).1.1, .int .u64 (R 1).1.2, .int .i64 (R 2).1.1, .int .u64 (R 2).1.2, .int .i64 (R 3).1.1, .int .u64 (R 3).1.2, .int .i64 (R 4).1.1, .int .u64 (R 4).1.2, .int .i64 (R 5).1.1, .int .u64 (R 5).1.2] 143))
   have g6 : w.heap.size ≤ w2.heap.size := HB.out.size
   replace HB := am (below_alloc HB.out (.cells #[.int .i64 (R 0).1.1, .int .u64 (R 0).1.2, .int .i64 (R 1).1.1, .int .u64 (R 1).1.2, .int .i64 (R 2).1.1, .int .u64 (R 2).1.2, .int .i64 (R 3).1.1, .int .u64 (R 3).1.2, .int .i64 (R 4).1.1, .int .u64 (R 4).1.2, .int .i64 (R 5).1.1, .int .u64 (R 5).1.2] 143))
   generalize w2.alloc (.cells #[.int .i64 (R 0).1.1, .int .u64 (R 0).1.2, .int .i64 (R 1).1.1, .int .u64 (R 1).1.2, .int .i64 (R 2).1.1, .int .u64 (R 2).1.2, .int .i64 (R 3).1.1, .int .u64 (R 3).1.2, .int .i64 (R 4).1.1, .int .u64 (R 4).1.2, .int .i64 (R 5).1.1, .int .u64 (R 5).1.2] 143) = w3 at H2 H3 H4 H6 HB ⊢
   generalize w2.heap.size = b6 at H6 g6 ⊢
   have y30 := b_v H3 0 (.int .i64 a0) rfl
   have y31 := b_v H3 1 (.int .i64 a1) rfl
   have y32 := b_v H3 2 (.int .i64 a2) rfl
   go_wp2_with fail
   refine (HV.out w3 (HG.out.below HB.out)).mono ?_
   rintro e w4 ⟨rfl, hb⟩
   clear y30 y31 y32
   replace H2 := b_b H2 hb
   replace H3 := b_b H3 hb
   replace H4 := b_b H4 hb
   replace H6 := b_b H6 hb
   replace HB := b_s HB hb
   clear hb
   have y40 := b_v H4 0 (.int .i64 0) rfl
   have f40 := b_z H4 0
   have y41 := b_v H4 1 (.int .i64 0) rfl
   have f41 := b_z H4 1
   have y42 := b_v H4 2 (.int .i64 0) rfl
   have f42 := b_z H4 2
   have y43 := b_v H4 3 (.int .i64 0) rfl
   have f43 := b_z H4 3
   have y44 := b_v H4 4 (.int .i64 0) rfl
   have f44 := b_z H4 4
   have y45 := b_v H4 5 (.int .i64 0) rfl
   have f45 := b_z H4 5
   go_wp2_with fail
   obtain ⟨q, qb⟩ := six_set rfl H4.out g4 HB.out (.int .i64 0) (.int .i64 0) (.int .i64 0) (.int .i64 0) (.int .i64 0) (.int .i64 0)
   exact bodyPost_ret (results_ct rfl _ _ b4 46 _ (0, 0) _ rfl q Tryz.underlying46 rfl (by kernel_rfl)) rfl ⟨rfl, qb⟩
  | true =>
   obtain ⟨r0, r1, r2, r3, r4, r5, er, hyes, hno⟩ : ∃ r0 r1 r2 r3 r4 r5 er, ((∀ q : Nat, q < 6 → E q = 0 ∧ fits (X q) = true) → n0 = r0 ∧ n1 = r1 ∧ n2 = r2 ∧ n3 = r3 ∧ n4 = r4 ∧ n5 = r5 ∧ e2 = er) ∧ (¬ (∀ q : Nat, q < 6 → E q = 0 ∧ fits (X q) = true) → r0 = 0 ∧ r1 = 0 ∧ r2 = 0 ∧ r3 = 0 ∧ r4 = 0 ∧ r5 = 0 ∧ er = 3) := by
    by_cases h : (∀ q : Nat, q < 6 → E q = 0 ∧ fits (X q) = true)
    ·
     exact ⟨n0, n1, n2, n3, n4, n5, e2, fun _ => ⟨rfl, rfl, rfl, rfl, rfl, rfl, rfl⟩, fun hn => absurd h hn⟩
    exact ⟨0, 0, 0, 0, 0, 0, 3, fun hy => absurd hy h, fun _ => ⟨rfl, rfl, rfl, rfl, rfl, rfl, rfl⟩⟩
   have HYES := am hyes
   have HNO := am hno
   clear hyes hno
   refine ⟨r0, r1, r2, r3, r4, r5, er, fun w hG => ?_⟩
   have HG := am hG
   clear hG
   go_enter Tryz.func68, Tryz.ntmps68
   go_upto_region 1 with fail
   obtain ⟨x2', x3', x4', hB⟩ := blocks3 w #[m0, m1, m2, m3, m4, m5] #[a0, a1, a2] #[(), (), (), (), (), ()] 46 26 46
   generalize ((w.alloc (.cells #[m0, m1, m2, m3, m4, m5] 46)).alloc (.cells #[a0, a1, a2] 26)).alloc (.cells #[(), (), (), (), (), ()] 46) = w1 at x2' x3' x4' hB ⊢
   obtain ⟨b2, h2⟩ := e_x (w.heap.size)
   obtain ⟨b3, h3⟩ := e_x (w.heap.size + 1)
   obtain ⟨b4, h4⟩ := e_x (w.heap.size + 1 + 1)
   have g2 : w.heap.size ≤ b2 := by omega
   have g3 : w.heap.size ≤ b3 := by omega
   have g4 : w.heap.size ≤ b4 := by omega
   have n2_3 : b2 ≠ b3 := by omega
   have n2_4 : b2 ≠ b4 := by omega
   have n3_2 : b3 ≠ b2 := by omega
   have n3_4 : b3 ≠ b4 := by omega
   have n4_2 : b4 ≠ b2 := by omega
   have n4_3 : b4 ≠ b3 := by omega
   rw [← h4, ← h3, ← h2]
   rw [← h4] at x4'
   rw [← h3] at x3'
   rw [← h2] at x2'
   have H2 := am x2'
   have H3 := am x3'
   have H4 := am x4'
   have HB := am hB
   clear x2' x3' x4' hB h2 h3 h4
   have y20 := b_v H2 0 (.int .i64 m0) rfl
   have y21 := b_v H2 1 (.int .i64 m1) rfl
   have y22 := b_v H2 2 (.int .i64 m2) rfl
   have y23 := b_v H2 3 (.int .i64 m3) rfl
   have y24 := b_v H2 4 (.int .i64 m4) rfl
   have y25 := b_v H2 5 (.int .i64 m5) rfl
   go_wp2_with fail
   refine (HRaw.out w1 (HG.out.below HB.out)).mono ?_
   rintro e w2 ⟨rfl, hb⟩
   replace H2 := b_b H2 hb
   replace H3 := b_b H3 hb
   replace H4 := b_b H4 hb
   replace HB := b_s HB hb
   clear y20 y21 y22 y23 y24 y25
   clear hb
   go_upto_region 2 with fail
   replace H2 := am (blk_alloc H2.out (.cells #[.int .i64 (R 0).1.1, .int .u64 (R 0).1.2, .int .i64 (R 1).1.1, .int .u64 (R 1).1.2, .int .i64 (R 2).1.1, .int .u64 (R 2).1.2, .int .i64 (R 3).1.1, .int .u64 (R 3).1.2, .int .i64 (R 4).1.1, .int .u64 (R 4).1.2, .int .i64 (R 5).1.1, .int .u64 (R 5).1.2] 143))
   replace H3 := am (blk_alloc H3.out (.cells #[.int .i64 (R 0).1.1, .int .u64 (R 0).1.2, .int .i64 (R 1).1.1, .int .u64 (R 1).1.2, .int .i64 (R 2).1.1, .int .u64 (R 2).1.2, .int .i64 (R 3).1.1, .int .u64 (R 3).1.2, .int .i64 (R 4).1.1, .int .u64 (R 4).1.2, .int .i64 (R 5).1.1, .int .u64 (R 5).1.2] 143))
   replace H4 := am (blk_alloc H4.out (.cells #[.int .i64 (R 0).1.1, .int .u64 (R 0).1.2, .int .i64 (R 1).1.1, .int .u64 (R 1).1.2, .int .i64 (R 2).1.1, .int .u64 (R 2).1.2, .int .i64 (R 3).1.1, .int .u64 (R 3).1.2, .int .i64 (R 4).1.1, .int .u64 (R 4).1.2, .int .i64 (R 5).1.1, .int .u64 (R 5).1.2] 143))
   have H6 := am (blk_new w2 (.cells #[.int .i64 (R 0).1.1, .int .u64 (R 0).1.2, .int .i64 (R 1).1.1, .int .u64 (R 1).1.2, .int .i64 (R 2).1.1, .int .u64 (R 2).1.2, .int .i64 (R 3).1.1, .int .u64 (R 3).1.2, .int .i64 (R 4).1.1, .int .u64 (R 4).1.2, .int .i64 (R 5).1.1, .int .u64 (R 5).1.2] 143))
   have g6 : w.heap.size ≤ w2.heap.size := HB.out.size
   replace HB := am (below_alloc HB.out (.cells #[.int .i64 (R 0).1.1, .int .u64 (R 0).1.2, .int .i64 (R 1).1.1, .int .u64 (R 1).1.2, .int .i64 (R 2).1.1, .int .u64 (R 2).1.2, .int .i64 (R 3).1.1, .int .u64 (R 3).1.2, .int .i64 (R 4).1.1, .int .u64 (R 4).1.2, .int .i64 (R 5).1.1, .int .u64 (R 5).1.2] 143))
   generalize w2.alloc (.cells #[.int .i64 (R 0).1.1, .int .u64 (R 0).1.2, .int .i64 (R 1).1.1, .int .u64 (R 1).1.2, .int .i64 (R 2).1.1, .int .u64 (R 2).1.2, .int .i64 (R 3).1.1, .int .u64 (R 3).1.2, .int .i64 (R 4).1.1, .int .u64 (R 4).1.2, .int .i64 (R 5).1.1, .int .u64 (R 5).1.2] 143) = w3 at H2 H3 H4 H6 HB ⊢
   generalize w2.heap.size = b6 at H6 g6 ⊢
   have y30 := b_v H3 0 (.int .i64 a0) rfl
   have y31 := b_v H3 1 (.int .i64 a1) rfl
   have y32 := b_v H3 2 (.int .i64 a2) rfl
   go_wp2_with fail
   refine (HV.out w3 (HG.out.below HB.out)).mono ?_
   rintro e w4 ⟨rfl, hb⟩
   clear y30 y31 y32
   replace H2 := b_b H2 hb
   replace H3 := b_b H3 hb
   replace H4 := b_b H4 hb
   replace H6 := b_b H6 hb
   replace HB := b_s HB hb
   clear hb
   go_upto_region 5 with fail
   have n2_8 : b2 ≠ w4.heap.size := Nat.ne_of_lt (blk_lt H2.out)
   have n3_8 : b3 ≠ w4.heap.size := Nat.ne_of_lt (blk_lt H3.out)
   have n4_8 : b4 ≠ w4.heap.size := Nat.ne_of_lt (blk_lt H4.out)
   replace H2 := am (blk_alloc H2.out (.cells #[(), (), (), (), (), ()] 46))
   replace H3 := am (blk_alloc H3.out (.cells #[(), (), (), (), (), ()] 46))
   replace H4 := am (blk_alloc H4.out (.cells #[(), (), (), (), (), ()] 46))
   replace H6 := am (blk_alloc H6.out (.cells #[(), (), (), (), (), ()] 46))
   have H8 := am (blk_new w4 (.cells #[(), (), (), (), (), ()] 46))
   have g8 : w.heap.size ≤ w4.heap.size := HB.out.size
   replace HB := am (below_alloc HB.out (.cells #[(), (), (), (), (), ()] 46))
   generalize w4.alloc (.cells #[(), (), (), (), (), ()] 46) = w5 at H2 H3 H4 H6 H8 HB ⊢
   generalize w4.heap.size = b8 at H8 g8 n2_8 n3_8 n4_8 ⊢
   have y60 := b_v H6 0 (.int .i64 (R 0).1.1) rfl
   have y61 := b_v H6 1 (.int .u64 (R 0).1.2) rfl
   have y62 := b_v H6 2 (.int .i64 (R 1).1.1) rfl
   have y63 := b_v H6 3 (.int .u64 (R 1).1.2) rfl
   have y64 := b_v H6 4 (.int .i64 (R 2).1.1) rfl
   have y65 := b_v H6 5 (.int .u64 (R 2).1.2) rfl
   have y66 := b_v H6 6 (.int .i64 (R 3).1.1) rfl
   have y67 := b_v H6 7 (.int .u64 (R 3).1.2) rfl
   have y68 := b_v H6 8 (.int .i64 (R 4).1.1) rfl
   have y69 := b_v H6 9 (.int .u64 (R 4).1.2) rfl
   have y610 := b_v H6 10 (.int .i64 (R 5).1.1) rfl
   have y611 := b_v H6 11 (.int .u64 (R 5).1.2) rfl
   have n8_4 := Ne.symm n4_8
   go_wp2_with fail
   go_loopw [29] (fun i' wr => ∃ k : Int, (0 ≤ k ∧ k ≤ 6) ∧ i' = .int .i64 k ∧ Aside0 (∀ q : Nat, q < k.toNat → E q = 0 ∧ fits (X q) = true) ∧ Aside0 (wr.heap[b2]? = some (.cells #[m0, m1, m2, m3, m4, m5] 46 (0, 0))) ∧ Aside0 (wr.heap[b3]? = some (.cells #[a0, a1, a2] 26 (0, 0))) ∧ Aside0 (wr.heap[b4]? = some (.cells #[(), (), (), (), (), ()] 46 (0, 0))) ∧ Aside0 (wr.heap[b8]? = some (.cells (rowS X k.toNat) 46 (0, 0))) ∧ Aside0 (Below w.heap.size w wr)) (fun i _ => 6 - (intOf i).toNat)
   case atStart => exact ⟨0, by omega, rfl, ⟨fun q hq => by simp at hq⟩, H2, H3, H4, ⟨H8.out⟩, HB⟩
   case round =>
    clear HB H2 H3 H4 H6 H8 y60 y61 y62 y63 y64 y65 y66 y67 y68 y69 y610 y611 g6
    obtain ⟨k, hk, rfl, HP, H2, H3, H4, H8, HB⟩ := hrel
    by_cases h6 : k < 6
    ·
     skip
     have ik := index6 R hk.1 h6
     go_upto_region 8 with fail
     replace H2 := am (blk_alloc H2.out (.cells #[.int .i64 (R k.toNat).1.1, .int .u64 (R k.toNat).1.2] 124))
     replace H3 := am (blk_alloc H3.out (.cells #[.int .i64 (R k.toNat).1.1, .int .u64 (R k.toNat).1.2] 124))
     replace H4 := am (blk_alloc H4.out (.cells #[.int .i64 (R k.toNat).1.1, .int .u64 (R k.toNat).1.2] 124))
     replace H8 := am (blk_alloc H8.out (.cells #[.int .i64 (R k.toNat).1.1, .int .u64 (R k.toNat).1.2] 124))
     have H10 := am (blk_new wr (.cells #[.int .i64 (R k.toNat).1.1, .int .u64 (R k.toNat).1.2] 124))
     have g10 : w.heap.size ≤ wr.heap.size := HB.out.size
     replace HB := am (below_alloc HB.out (.cells #[.int .i64 (R k.toNat).1.1, .int .u64 (R k.toNat).1.2] 124))
     generalize wr.alloc (.cells #[.int .i64 (R k.toNat).1.1, .int .u64 (R k.toNat).1.2] 124) = v1 at H2 H3 H4 H8 H10 HB ⊢
     generalize wr.heap.size = b10 at H10 g10 ⊢
     have y100 := b_v H10 0 (.int .i64 (R k.toNat).1.1) rfl
     have y101 := b_v H10 1 (.int .u64 (R k.toNat).1.2) rfl
     go_wp2_with fail
     refine ((HT.out k.toNat).1 v1 (HG.out.below HB.out)).mono ?_
     rintro e v2 ⟨rfl, hb⟩
     clear y100 y101 H10 g10 ik
     replace H2 := b_b H2 hb
     replace H3 := b_b H3 hb
     replace H4 := b_b H4 hb
     replace H8 := b_b H8 hb
     replace HB := b_s HB hb
     clear hb
     go_upto_region 9 with fail
     replace H2 := am (blk_alloc H2.out (.cells #[.int .i64 (HF k.toNat).1.1, .int .u64 (HF k.toNat).1.2] 124))
     replace H3 := am (blk_alloc H3.out (.cells #[.int .i64 (HF k.toNat).1.1, .int .u64 (HF k.toNat).1.2] 124))
     replace H4 := am (blk_alloc H4.out (.cells #[.int .i64 (HF k.toNat).1.1, .int .u64 (HF k.toNat).1.2] 124))
     replace H8 := am (blk_alloc H8.out (.cells #[.int .i64 (HF k.toNat).1.1, .int .u64 (HF k.toNat).1.2] 124))
     have H11 := am (blk_new v2 (.cells #[.int .i64 (HF k.toNat).1.1, .int .u64 (HF k.toNat).1.2] 124))
     have g11 : w.heap.size ≤ v2.heap.size := HB.out.size
     replace HB := am (below_alloc HB.out (.cells #[.int .i64 (HF k.toNat).1.1, .int .u64 (HF k.toNat).1.2] 124))
     generalize v2.alloc (.cells #[.int .i64 (HF k.toNat).1.1, .int .u64 (HF k.toNat).1.2] 124) = v3 at H2 H3 H4 H8 H11 HB ⊢
     generalize v2.heap.size = b11 at H11 g11 ⊢
     have y110 := b_v H11 0 (.int .i64 (HF k.toNat).1.1) rfl
     have y111 := b_v H11 1 (.int .u64 (HF k.toNat).1.2) rfl
     go_wp2_with fail
     refine ((HT.out k.toNat).2 v3 (HG.out.below HB.out)).mono ?_
     rintro e v4 ⟨rfl, hb⟩
     clear y110 y111 H11 g11
     replace H2 := b_b H2 hb
     replace H3 := b_b H3 hb
     replace H4 := b_b H4 hb
     replace H8 := b_b H8 hb
     replace HB := b_s HB hb
     clear hb
     by_cases he : E k.toNat = 0
     ·
      cases hf : fits (X k.toNat) with
      | false =>
       have HN : ¬ (∀ q : Nat, q < 6 → E q = 0 ∧ fits (X q) = true) := fun h => by have := (h k.toNat (by omega)).2; rw [hf] at this; cases this
       have HF1 := am hf
       clear hf HP
       obtain ⟨rfl, rfl, rfl, rfl, rfl, rfl, rfl⟩ := HNO.out HN
       clear HNO HYES HN
       go_wp2_with fail
       refine (fits_any v4 (X k.toNat)).mono ?_
       rintro e v5 ⟨rfl, rfl⟩
       rw [HF1.out]
       have y40 := b_v H4 0 (.int .i64 0) rfl
       have f40 := b_z H4 0
       have y41 := b_v H4 1 (.int .i64 0) rfl
       have f41 := b_z H4 1
       have y42 := b_v H4 2 (.int .i64 0) rfl
       have f42 := b_z H4 2
       have y43 := b_v H4 3 (.int .i64 0) rfl
       have f43 := b_z H4 3
       have y44 := b_v H4 4 (.int .i64 0) rfl
       have f44 := b_z H4 4
       have y45 := b_v H4 5 (.int .i64 0) rfl
       have f45 := b_z H4 5
       go_wp2_with fail
       obtain ⟨q, qb⟩ := six_set rfl H4.out g4 HB.out (.int .i64 0) (.int .i64 0) (.int .i64 0) (.int .i64 0) (.int .i64 0) (.int .i64 0)
       exact bodyPost_ret (results_ct rfl _ _ b4 46 _ (0, 0) _ rfl q Tryz.underlying46 rfl (by kernel_rfl)) rfl ⟨rfl, qb⟩
      | true =>
       have HF1 := am hf
       have HGood := am (show ∀ q : Nat, q < k.toNat + 1 → E q = 0 ∧ fits (X q) = true from fun q hq => by
        by_cases hq2 : q < k.toNat
        ·
         exact HP.out q hq2
        obtain rfl : q = k.toNat := by omega
        exact ⟨he, hf⟩)
       clear hf
       go_wp2_with fail
       refine (fits_any v4 (X k.toNat)).mono ?_
       rintro e v5 ⟨rfl, rfl⟩
       rw [HF1.out]
       have y8 : v5.cell? ⟨b8, k.toNat, none⟩ = some (.int .i64 0) := by
        refine (blk_cell H8.out _).trans ?_
        obtain rfl | rfl | rfl | rfl | rfl | rfl : k = 0 ∨ k = 1 ∨ k = 2 ∨ k = 3 ∨ k = 4 ∨ k = 5 := by omega
        all_goals rfl
       have f8 := b_z H8 k.toNat
       go_wp2_with fail
       have q := blk_set H8.out k.toNat (.int .i64 (X k.toNat))
       rw [rowS_set X hk.1 h6] at q
       have qb := HB.out.setCell (p := ⟨b8, k.toNat, none⟩) g8 (.int .i64 (X k.toNat))
       have q2 := am (blk_far H2.out (p := ⟨b8, k.toNat, none⟩) n2_8 (.int .i64 (X k.toNat)))
       have q3 := am (blk_far H3.out (p := ⟨b8, k.toNat, none⟩) n3_8 (.int .i64 (X k.toNat)))
       have q4 := am (blk_far H4.out (p := ⟨b8, k.toNat, none⟩) n4_8 (.int .i64 (X k.toNat)))
       go_roundw
       case rel => exact ⟨k + 1, by omega, rfl, ⟨by rw [show (k + 1).toNat = k.toNat + 1 by omega]; exact HGood.out⟩, q2, q3, q4, ⟨by rw [show (k + 1).toNat = k.toNat + 1 by omega]; exact q⟩, ⟨qb⟩⟩
       case measure => simp [intOf]; omega
     have HN : ¬ (∀ q : Nat, q < 6 → E q = 0 ∧ fits (X q) = true) := fun h => he (h k.toNat (by omega)).1
     have q1 : (E k.toNat == 0) = false := by simp [he]
     have q2 : decide (E k.toNat = 0) = false := decide_eq_false he
     obtain ⟨rfl, rfl, rfl, rfl, rfl, rfl, rfl⟩ := HNO.out HN
     clear HNO HYES HN HP
     have y40 := b_v H4 0 (.int .i64 0) rfl
     have f40 := b_z H4 0
     have y41 := b_v H4 1 (.int .i64 0) rfl
     have f41 := b_z H4 1
     have y42 := b_v H4 2 (.int .i64 0) rfl
     have f42 := b_z H4 2
     have y43 := b_v H4 3 (.int .i64 0) rfl
     have f43 := b_z H4 3
     have y44 := b_v H4 4 (.int .i64 0) rfl
     have f44 := b_z H4 4
     have y45 := b_v H4 5 (.int .i64 0) rfl
     have f45 := b_z H4 5
     go_wp2_with fail
     obtain ⟨q, qb⟩ := six_set rfl H4.out g4 HB.out (.int .i64 0) (.int .i64 0) (.int .i64 0) (.int .i64 0) (.int .i64 0) (.int .i64 0)
     exact bodyPost_ret (results_ct rfl _ _ b4 46 _ (0, 0) _ rfl q Tryz.underlying46 rfl (by kernel_rfl)) rfl ⟨rfl, qb⟩
    skip
    have h6' : k = 6 := by omega
    subst h6'
    obtain ⟨rfl, rfl, rfl, rfl, rfl, rfl, rfl⟩ := HYES.out (fun q hq => HP.out q hq)
    replace H8 := am (show wr.heap[b8]? = some (.cells #[.int .i64 (X 0), .int .i64 (X 1), .int .i64 (X 2), .int .i64 (X 3), .int .i64 (X 4), .int .i64 (X 5)] 46 (0, 0)) from H8.out)
    clear HP hk h6 HYES HNO
    go_upto_region 14 with fail
    refine s_t 8 (fun w' => w'.heap[b8]? = some (.cells #[.int .i64 (X 0), .int .i64 (X 1), .int .i64 (X 2), .int .i64 (X 3), .int .i64 (X 4), .int .i64 (X 5)] 46 (0, 0)) ∧ w'.heap[b3]? = some (.cells #[a0, a1, a2] 26 (0, 0))) ⟨H8.out, H3.out⟩ (fun hHeld => ?_)
    replace H2 := b_d H2
    replace H3 := b_d H3
    replace H4 := b_d H4
    replace H8 := b_d H8
    replace HB := am (below_drew HB.out)
    generalize wr.drew = x1 at H2 H3 H4 H8 HB hHeld ⊢
    refine t_a 0 55 8 1 hHeld ?_ (hv := by rintro w' ⟨s0, s1⟩; have x0 := bcv s0 0 (.int .i64 (X 0)) rfl; have x1 := bcv s0 1 (.int .i64 (X 1)) rfl; have x2 := bcv s0 2 (.int .i64 (X 2)) rfl; have x3 := bcv s0 3 (.int .i64 (X 3)) rfl; have x4 := bcv s0 4 (.int .i64 (X 4)) rfl; have x5 := bcv s0 5 (.int .i64 (X 5)) rfl; go_simp; with_reducible rfl)
    refine t_a 1 56 8 3 hHeld ?_ (hv := by rintro w' ⟨s0, s1⟩; have x0 := bcv s1 0 (.int .i64 a0) rfl; have x1 := bcv s1 1 (.int .i64 a1) rfl; have x2 := bcv s1 2 (.int .i64 a2) rfl; go_simp; with_reducible rfl)
    refine o_n 2 57 8 7 fun K hK => ?_
    refine g_s Tryz.func15 #[.agg #[a0, a1, a2]] ?_
    refine (diag_any x1 a0 a1 a2).mono ?_
    rintro e x2 ⟨rfl, hb⟩
    replace H2 := b_b H2 hb
    replace H3 := b_b H3 hb
    replace H4 := b_b H4 hb
    replace H8 := b_b H8 hb
    replace HB := b_s HB hb
    clear hb hHeld
    refine ⟨_, rfl, ?_⟩
    refine hK.out _ _ ⟨H8.out, H3.out⟩ (fun hHeld => ?_)
    clear hK K
    refine n_o 57 ?_
    refine o_n 3 58 8 15 fun K hK => ?_
    refine g_s Tryz.func100 #[.agg #[.int .i64 (X 0), .int .i64 (X 1), .int .i64 (X 2), .int .i64 (X 3), .int .i64 (X 4), .int .i64 (X 5)], .agg #[a0, (), (), a1, (), a2]] ?_
    refine (HS.out x2 (HG.out.below HB.out)).mono ?_
    rintro e x3 ⟨rfl, hb⟩
    replace H2 := b_b H2 hb
    replace H3 := b_b H3 hb
    replace H4 := b_b H4 hb
    replace H8 := b_b H8 hb
    replace HB := b_s HB hb
    clear hb hHeld
    refine ⟨_, rfl, ?_⟩
    refine hK.out _ _ ⟨H8.out, H3.out⟩ (fun hHeld => ?_)
    clear hK K
    refine n_o 58 ?_
    refine p_u 4 59 8 31 ?_
    refine p_u 5 60 8 63 ?_
    have y40 := b_v H4 0 (.int .i64 0) rfl
    have f40 := b_z H4 0
    have y41 := b_v H4 1 (.int .i64 0) rfl
    have f41 := b_z H4 1
    have y42 := b_v H4 2 (.int .i64 0) rfl
    have f42 := b_z H4 2
    have y43 := b_v H4 3 (.int .i64 0) rfl
    have f43 := b_z H4 3
    have y44 := b_v H4 4 (.int .i64 0) rfl
    have f44 := b_z H4 4
    have y45 := b_v H4 5 (.int .i64 0) rfl
    have f45 := b_z H4 5
    refine o_0 6 8 127 fun K hK => ?_
    refine s_k ((((((x3.setCell ⟨b4, 0, none⟩ (.int .i64 n0)).setCell ⟨b4, 1, none⟩ (.int .i64 n1)).setCell ⟨b4, 2, none⟩ (.int .i64 n2)).setCell ⟨b4, 3, none⟩ (.int .i64 n3)).setCell ⟨b4, 4, none⟩ (.int .i64 n4)).setCell ⟨b4, 5, none⟩ (.int .i64 n5)) ?_
    obtain ⟨q, qb⟩ := six_set rfl H4.out g4 HB.out (.int .i64 n0) (.int .i64 n1) (.int .i64 n2) (.int .i64 n3) (.int .i64 n4) (.int .i64 n5)
    have qo0 := (blk_far (blk_far (blk_far (blk_far (blk_far (blk_far H2.out (p := ⟨b4, 0, none⟩) n2_4 (.int .i64 n0)) (p := ⟨b4, 1, none⟩) n2_4 (.int .i64 n1)) (p := ⟨b4, 2, none⟩) n2_4 (.int .i64 n2)) (p := ⟨b4, 3, none⟩) n2_4 (.int .i64 n3)) (p := ⟨b4, 4, none⟩) n2_4 (.int .i64 n4)) (p := ⟨b4, 5, none⟩) n2_4 (.int .i64 n5))
    have qo1 := (blk_far (blk_far (blk_far (blk_far (blk_far (blk_far H3.out (p := ⟨b4, 0, none⟩) n3_4 (.int .i64 n0)) (p := ⟨b4, 1, none⟩) n3_4 (.int .i64 n1)) (p := ⟨b4, 2, none⟩) n3_4 (.int .i64 n2)) (p := ⟨b4, 3, none⟩) n3_4 (.int .i64 n3)) (p := ⟨b4, 4, none⟩) n3_4 (.int .i64 n4)) (p := ⟨b4, 5, none⟩) n3_4 (.int .i64 n5))
    have qo2 := (blk_far (blk_far (blk_far (blk_far (blk_far (blk_far H8.out (p := ⟨b4, 0, none⟩) n8_4 (.int .i64 n0)) (p := ⟨b4, 1, none⟩) n8_4 (.int .i64 n1)) (p := ⟨b4, 2, none⟩) n8_4 (.int .i64 n2)) (p := ⟨b4, 3, none⟩) n8_4 (.int .i64 n3)) (p := ⟨b4, 4, none⟩) n8_4 (.int .i64 n4)) (p := ⟨b4, 5, none⟩) n8_4 (.int .i64 n5))
    clear hHeld y40 f40 y41 f41 y42 f42 y43 f43 y44 f44 y45 f45 H4 HB H2 H3 H8
    generalize (((((x3.setCell ⟨b4, 0, none⟩ (.int .i64 n0)).setCell ⟨b4, 1, none⟩ (.int .i64 n1)).setCell ⟨b4, 2, none⟩ (.int .i64 n2)).setCell ⟨b4, 3, none⟩ (.int .i64 n3)).setCell ⟨b4, 4, none⟩ (.int .i64 n4)).setCell ⟨b4, 5, none⟩ (.int .i64 n5) = x4 at q qb qo0 qo1 qo2 ⊢
    have H4 := am q
    have HB := am qb
    have H2 := am qo0
    have H3 := am qo1
    have H8 := am qo2
    clear q qb qo0 qo1 qo2
    refine hK.out _ _ ⟨H8.out, H3.out⟩ (fun hHeld => ?_)
    clear hK K
    refine p_u 7 5 8 255 ?_
    refine d_n ?_
    go_wp2_with fail
    exact bodyPost_ret (results_ct rfl _ _ b4 46 _ (0, 0) _ rfl H4.out Tryz.underlying46 rfl (by kernel_rfl)) rfl ⟨rfl, HB.out⟩
 have q1 : (e0 == 0) = false := by simp [h0]
 have q2 : decide (e0 = 0) = false := decide_eq_false h0
 refine ⟨0, 0, 0, 0, 0, 0, 1, fun w hG => ?_⟩
 have HG := am hG
 clear hG
 go_enter Tryz.func68, Tryz.ntmps68
 go_upto_region 1 with fail
 obtain ⟨x2', x3', x4', hB⟩ := blocks3 w #[m0, m1, m2, m3, m4, m5] #[a0, a1, a2] #[(), (), (), (), (), ()] 46 26 46
 generalize ((w.alloc (.cells #[m0, m1, m2, m3, m4, m5] 46)).alloc (.cells #[a0, a1, a2] 26)).alloc (.cells #[(), (), (), (), (), ()] 46) = w1 at x2' x3' x4' hB ⊢
 obtain ⟨b2, h2⟩ := e_x (w.heap.size)
 obtain ⟨b3, h3⟩ := e_x (w.heap.size + 1)
 obtain ⟨b4, h4⟩ := e_x (w.heap.size + 1 + 1)
 have g2 : w.heap.size ≤ b2 := by omega
 have g3 : w.heap.size ≤ b3 := by omega
 have g4 : w.heap.size ≤ b4 := by omega
 have n2_3 : b2 ≠ b3 := by omega
 have n2_4 : b2 ≠ b4 := by omega
 have n3_2 : b3 ≠ b2 := by omega
 have n3_4 : b3 ≠ b4 := by omega
 have n4_2 : b4 ≠ b2 := by omega
 have n4_3 : b4 ≠ b3 := by omega
 rw [← h4, ← h3, ← h2]
 rw [← h4] at x4'
 rw [← h3] at x3'
 rw [← h2] at x2'
 have H2 := am x2'
 have H3 := am x3'
 have H4 := am x4'
 have HB := am hB
 clear x2' x3' x4' hB h2 h3 h4
 have y20 := b_v H2 0 (.int .i64 m0) rfl
 have y21 := b_v H2 1 (.int .i64 m1) rfl
 have y22 := b_v H2 2 (.int .i64 m2) rfl
 have y23 := b_v H2 3 (.int .i64 m3) rfl
 have y24 := b_v H2 4 (.int .i64 m4) rfl
 have y25 := b_v H2 5 (.int .i64 m5) rfl
 go_wp2_with fail
 refine (HRaw.out w1 (HG.out.below HB.out)).mono ?_
 rintro e w2 ⟨rfl, hb⟩
 replace H2 := b_b H2 hb
 replace H3 := b_b H3 hb
 replace H4 := b_b H4 hb
 replace HB := b_s HB hb
 clear y20 y21 y22 y23 y24 y25
 clear hb
 go_upto_region 2 with fail
 replace H2 := am (blk_alloc H2.out (.cells #[.int .i64 (R 0).1.1, .int .u64 (R 0).1.2, .int .i64 (R 1).1.1, .int .u64 (R 1).1.2, .int .i64 (R 2).1.1, .int .u64 (R 2).1.2, .int .i64 (R 3).1.1, .int .u64 (R 3).1.2, .int .i64 (R 4).1.1, .int .u64 (R 4).1.2, .int .i64 (R 5).1.1, .int .u64 (R 5).1.2] 143))
 replace H3 := am (blk_alloc H3.out (.cells #[.int .i64 (R 0).1.1, .int .u64 (R 0).1.2, .int .i64 (R 1).1.1, .int .u64 (R 1).1.2, .int .i64 (R 2).1.1, .int .u64 (R 2).1.2, .int .i64 (R 3).1.1, .int .u64 (R 3).1.2, .int .i64 (R 4).1.1, .int .u64 (R 4).1.2, .int .i64 (R 5).1.1, .int .u64 (R 5).1.2] 143))
 replace H4 := am (blk_alloc H4.out (.cells #[.int .i64 (R 0).1.1, .int .u64 (R 0).1.2, .int .i64 (R 1).1.1, .int .u64 (R 1).1.2, .int .i64 (R 2).1.1, .int .u64 (R 2).1.2, .int .i64 (R 3).1.1, .int .u64 (R 3).1.2, .int .i64 (R 4).1.1, .int .u64 (R 4).1.2, .int .i64 (R 5).1.1, .int .u64 (R 5).1.2] 143))
 have H6 := am (blk_new w2 (.cells #[.int .i64 (R 0).1.1, .int .u64 (R 0).1.2, .int .i64 (R 1).1.1, .int .u64 (R 1).1.2, .int .i64 (R 2).1.1, .int .u64 (R 2).1.2, .int .i64 (R 3).1.1, .int .u64 (R 3).1.2, .int .i64 (R 4).1.1, .int .u64 (R 4).1.2, .int .i64 (R 5).1.1, .int .u64 (R 5).1.2] 143))
 have g6 : w.heap.size ≤ w2.heap.size := HB.out.size
 replace HB := am (below_alloc HB.out (.cells #[.int .i64 (R 0).1.1, .int .u64 (R 0).1.2, .int .i64 (R 1).1.1, .int .u64 (R 1).1.2, .int .i64 (R 2).1.1, .int .u64 (R 2).1.2, .int .i64 (R 3).1.1, .int .u64 (R 3).1.2, .int .i64 (R 4).1.1, .int .u64 (R 4).1.2, .int .i64 (R 5).1.1, .int .u64 (R 5).1.2] 143))
 generalize w2.alloc (.cells #[.int .i64 (R 0).1.1, .int .u64 (R 0).1.2, .int .i64 (R 1).1.1, .int .u64 (R 1).1.2, .int .i64 (R 2).1.1, .int .u64 (R 2).1.2, .int .i64 (R 3).1.1, .int .u64 (R 3).1.2, .int .i64 (R 4).1.1, .int .u64 (R 4).1.2, .int .i64 (R 5).1.1, .int .u64 (R 5).1.2] 143) = w3 at H2 H3 H4 H6 HB ⊢
 generalize w2.heap.size = b6 at H6 g6 ⊢
 have y40 := b_v H4 0 (.int .i64 0) rfl
 have f40 := b_z H4 0
 have y41 := b_v H4 1 (.int .i64 0) rfl
 have f41 := b_z H4 1
 have y42 := b_v H4 2 (.int .i64 0) rfl
 have f42 := b_z H4 2
 have y43 := b_v H4 3 (.int .i64 0) rfl
 have f43 := b_z H4 3
 have y44 := b_v H4 4 (.int .i64 0) rfl
 have f44 := b_z H4 4
 have y45 := b_v H4 5 (.int .i64 0) rfl
 have f45 := b_z H4 5
 go_wp2_with fail
 obtain ⟨q, qb⟩ := six_set rfl H4.out g4 HB.out (.int .i64 0) (.int .i64 0) (.int .i64 0) (.int .i64 0) (.int .i64 0) (.int .i64 0)
 exact bodyPost_ret (results_ct rfl _ _ b4 46 _ (0, 0) _ rfl q Tryz.underlying46 rfl (by kernel_rfl)) rfl ⟨rfl, qb⟩
theorem cutA_ {K : Act → World → Prop} (C : Act → World → Prop) {R : Prop} (h1 : (∀ a w, C a w → K a w) → R) (h2 : ∀ a w, C a w → K a w) : R := h1 h2
section
variable {w0 W W' : World} {g f gr : Nat} {s : Gs} {c : Cf} {v : Value} {mode since last run band noise rough count : Int} {known : Bool} {l : List Int}
theorem Chan.hw (h : Chan w0 W g f gr s c v mode since last run band noise rough count known l) : w0.heap.size ≤ W.heap.size := h.hb.size
theorem Chan.but (h : Chan w0 W g f gr s c v mode since last run band noise rough count known l) {b : Nat} {cs : Array Value} {t : TypeId} (hb : W.heap[b]? = some (.cells cs t (0, 0))) (ht : t ≠ 56 ∧ t ≠ 101 ∧ t ≠ 93 ∧ t ≠ 2) (hk : Kept W W' (fun k => k = b)) (hB : Below w0.heap.size w0 W') :
  Chan w0 W' g f gr s c v mode since last run band noise rough count known l :=
 have h2 : some b ≠ v.ownBlock := Kd.R_ne h.hr hb (fun e => ht.2.2.2 (by simpa using e.symm))
 ⟨blk_kept h.hg hk (show ¬ g = b from blk_ne h.hg hb (by intro e; exact ht.1 e.symm)), blk_kept h.hf hk (show ¬ f = b from blk_ne h.hf hb (by intro e; exact ht.2.1 e.symm)), h.hi.kept (S := fun k => k = b) hk (h.hi.ne_blk hb (by intro e; exact ht.2.2.1 (by simpa using e))),
  Kd.R_mono (Kd.R_kept (Kd.R_tight rfl h.hr) hk (fun k hk e => h2 (by rw [← hk, e]))) (fun _ _ => trivial), h.g0, h.f0, hB⟩
end
theorem add_ex (c : Cf) (hd : Bool) : ∃ a0 a1 a2, ∀ (w : World) (f : Nat) (last run : Int), w.heap[f]? = some (.cells (feedV last run c) 101 (0, 0)) → Calls Tryz.prog 69 #[.pointer (some ⟨f, 0, none⟩), .bool hd] w fun e w' => e = .returned (.agg #[.int .i64 a0, .int .i64 a1, .int .i64 a2]) ∧ Below w.heap.size w w' := by
 cases hd with
 | true => exact ⟨c.l0, c.l1, c.l2, fun w f last run h => add_any w f c last run true h⟩
 | false => exact ⟨c.q0, c.q1, c.q2, fun w f last run h => add_any w f c last run false h⟩
theorem lit65 (T : Array Value) (h : T.size = 65) : ∃ S : Nat → Value, T = #[S 0, S 1, S 2, S 3, S 4, S 5, S 6, S 7, S 8, S 9, S 10, S 11, S 12, S 13, S 14, S 15, S 16, S 17, S 18, S 19, S 20, S 21, S 22, S 23, S 24, S 25, S 26, S 27, S 28, S 29, S 30, S 31, S 32, S 33, S 34, S 35, S 36, S 37, S 38, S 39, S 40, S 41, S 42, S 43, S 44, S 45, S 46, S 47, S 48, S 49, S 50, S 51, S 52, S 53, S 54, S 55, S 56, S 57, S 58, S 59, S 60, S 61, S 62, S 63, S 64] := by
 refine ⟨fun k => T.getD k undef, ?_⟩
 refine (show T = ((List.range 65).map (fun k => T.getD k undef)).toArray from ?_).trans rfl
 apply Array.ext
 ·
  simp [h]
 intro i h1 h2
 simp [h1]
theorem mlit3 (T : Array Value) (v0 v2 v6 : Value) (h : T.size = 65) (e0 : T.getD 0 undef = v0) (e2 : T.getD 2 undef = v2) (e6 : T.getD 6 undef = v6) : ∃ S : Nat → Value, T = #[v0, S 1, v2, S 3, S 4, S 5, v6, S 7, S 8, S 9, S 10, S 11, S 12, S 13, S 14, S 15, S 16, S 17, S 18, S 19, S 20, S 21, S 22, S 23, S 24, S 25, S 26, S 27, S 28, S 29, S 30, S 31, S 32, S 33, S 34, S 35, S 36, S 37, S 38, S 39, S 40, S 41, S 42, S 43, S 44, S 45, S 46, S 47, S 48, S 49, S 50, S 51, S 52, S 53, S 54, S 55, S 56, S 57, S 58, S 59, S 60, S 61, S 62, S 63, S 64] := by
 obtain ⟨S, rfl⟩ := lit65 T h
 replace e0 : S 0 = v0 := e0
 replace e2 : S 2 = v2 := e2
 replace e6 : S 6 = v6 := e6
 exact ⟨S, by rw [← e0, ← e2, ← e6]⟩
theorem mlit6 (T : Array Value) (v0 v6 v7 v8 : Value) (h : T.size = 65) (e0 : T.getD 0 undef = v0) (e6 : T.getD 6 undef = v6) (e7 : T.getD 7 undef = v7) (e8 : T.getD 8 undef = v8) : ∃ S : Nat → Value, T = #[v0, S 1, S 2, S 3, S 4, S 5, v6, v7, v8, S 9, S 10, S 11, S 12, S 13, S 14, S 15, S 16, S 17, S 18, S 19, S 20, S 21, S 22, S 23, S 24, S 25, S 26, S 27, S 28, S 29, S 30, S 31, S 32, S 33, S 34, S 35, S 36, S 37, S 38, S 39, S 40, S 41, S 42, S 43, S 44, S 45, S 46, S 47, S 48, S 49, S 50, S 51, S 52, S 53, S 54, S 55, S 56, S 57, S 58, S 59, S 60, S 61, S 62, S 63, S 64] := by
 obtain ⟨S, rfl⟩ := lit65 T h
 replace e0 : S 0 = v0 := e0
 replace e6 : S 6 = v6 := e6
 replace e7 : S 7 = v7 := e7
 replace e8 : S 8 = v8 := e8
 exact ⟨S, by rw [← e0, ← e6, ← e7, ← e8]⟩
theorem mlit9 (T : Array Value) (v0 v9 : Value) (h : T.size = 65) (e0 : T.getD 0 undef = v0) (e9 : T.getD 9 undef = v9) : ∃ S : Nat → Value, T = #[v0, S 1, S 2, S 3, S 4, S 5, S 6, S 7, S 8, v9, S 10, S 11, S 12, S 13, S 14, S 15, S 16, S 17, S 18, S 19, S 20, S 21, S 22, S 23, S 24, S 25, S 26, S 27, S 28, S 29, S 30, S 31, S 32, S 33, S 34, S 35, S 36, S 37, S 38, S 39, S 40, S 41, S 42, S 43, S 44, S 45, S 46, S 47, S 48, S 49, S 50, S 51, S 52, S 53, S 54, S 55, S 56, S 57, S 58, S 59, S 60, S 61, S 62, S 63, S 64] := by
 obtain ⟨S, rfl⟩ := lit65 T h
 replace e0 : S 0 = v0 := e0
 replace e9 : S 9 = v9 := e9
 exact ⟨S, by rw [← e0, ← e9]⟩
set_option maxRecDepth 100000 in
set_option maxHeartbeats 4000000 in
theorem move_ex (c : Cf) (s : Gs) (th : Int) (hd : Bool) : ∃ s' : Gs, ∀ (w0 w : World) (g f gr : Nat) (v : Value) (mode since last run band noise rough count : Int) (known : Bool) (l : List Int), G w0 → Chan w0 w g f gr s c v mode since last run band noise rough count known l →
  Calls Tryz.prog 26 #[.pointer (some ⟨g, 0, none⟩), th, .bool hd] w fun e w' => e = .returned (.tuple #[]) ∧ Chan w0 w' g f gr s' c v mode since last run band noise rough count known l ∧ Kept w w' (fun k => k = g) := by
 obtain ⟨r0, r1, r2, e1, hon⟩ := on_tells s.x0 s.x1 s.x2 th
 obtain ⟨a0, a1, a2, hadd⟩ := add_ex c hd
 obtain ⟨q0, q1, q2, q3, q4, q5, e2, hsp⟩ := spon_tells s.p0 s.p1 s.p2 s.p3 s.p4 s.p5 a0 a1 a2
 obtain ⟨X0, X1, X2, hX1, hX2⟩ : ∃ X0 X1 X2 : Int, (e1 = 0 → X0 = r0 ∧ X1 = r1 ∧ X2 = r2) ∧ (e1 ≠ 0 → X0 = s.x0 ∧ X1 = s.x1 ∧ X2 = s.x2) := by
  by_cases h : e1 = 0
  ·
   exact ⟨r0, r1, r2, fun _ => ⟨rfl, rfl, rfl⟩, fun h' => absurd h h'⟩
  exact ⟨s.x0, s.x1, s.x2, fun h' => absurd h' h, fun _ => ⟨rfl, rfl, rfl⟩⟩
 obtain ⟨P0, P1, P2, P3, P4, P5, hP1, hP2⟩ : ∃ P0 P1 P2 P3 P4 P5 : Int, (e2 = 0 → P0 = q0 ∧ P1 = q1 ∧ P2 = q2 ∧ P3 = q3 ∧ P4 = q4 ∧ P5 = q5) ∧ (e2 ≠ 0 → P0 = s.p0 ∧ P1 = s.p1 ∧ P2 = s.p2 ∧ P3 = s.p3 ∧ P4 = s.p4 ∧ P5 = s.p5) := by
  by_cases h : e2 = 0
  ·
   exact ⟨q0, q1, q2, q3, q4, q5, fun _ => ⟨rfl, rfl, rfl, rfl, rfl, rfl⟩, fun h' => absurd h h'⟩
  exact ⟨s.p0, s.p1, s.p2, s.p3, s.p4, s.p5, fun h' => absurd h' h, fun _ => ⟨rfl, rfl, rfl, rfl, rfl, rfl⟩⟩
 obtain ⟨k, hk⟩ := kept_ex c X0 X1 X2 P0 P1 P2 P3 P4 P5
 obtain ⟨s', hs1, hs2⟩ : ∃ s' : Gs, (e2 = 0 → s' = k) ∧ (e2 ≠ 0 → s' = ⟨k.x0, k.x1, k.x2, s.p0, s.p1, s.p2, s.p3, s.p4, s.p5⟩) := by
  by_cases h : e2 = 0
  ·
   exact ⟨k, fun _ => rfl, fun h' => absurd h h'⟩
  exact ⟨_, fun h' => absurd h' h, fun _ => rfl⟩
 refine ⟨s', fun w0 w g f gr v mode since last run band noise rough count known l hG h => ?_⟩
 have hw0 := h.hb.size
 have H := am h
 have HK := am (Kept.refl w (fun k => k = g))
 have HON := am hon
 have HADD := am hadd
 have HSP := am hsp
 have HKE := am hk
 have HX1 := am hX1
 have HX2 := am hX2
 have HP1 := am hP1
 have HP2 := am hP2
 have HS1 := am hs1
 have HS2 := am hs2
 have HG := am hG
 clear hon hadd hsp hk hX1 hX2 hP1 hP2 hs1 hs2 hG h
 unfold vec sym at *
 go_enter Tryz.func26, Tryz.ntmps26
 have yg0 := bcv H.out.hg 0 (.int .i64 s.x0) rfl
 have yg1 := bcv H.out.hg 1 (.int .i64 s.x1) rfl
 have yg2 := bcv H.out.hg 2 (.int .i64 s.x2) rfl
 go_wp2_with fail
 refine (HON.out w (HG.out.below H.out.hb)).mono ?_
 rintro e w1 ⟨rfl, hb⟩
 replace H := am (H.out.below hb)
 replace HK := am (HK.out.below hb)
 clear hb
 clear yg0 yg1 yg2
 go_upto_region 1 with fail
 have l6 : w.heap.size ≤ w1.heap.size := HK.out.1
 replace H := am (H.out.alloc (.cells #[r0, r1, r2] 26))
 replace HK := am (HK.out.alloc (.cells #[r0, r1, r2] 26))
 have H6 := am (blk_new w1 (.cells #[r0, r1, r2] 26))
 generalize w1.alloc (.cells #[r0, r1, r2] 26) = w2 at H HK H6 ⊢
 generalize w1.heap.size = b6 at H6 l6 ⊢
 rename_i KA hKA KB hKB
 have HKA := am hKA
 clear hKA
 apply cutA_ (K := KA) (fun a W => a.tmps.size = 65 ∧ a.defers = [] ∧ a.tmps.getD 0 undef = .pointer (some ⟨g, 0, none⟩) ∧ a.tmps.getD 2 undef = .bool hd ∧ a.tmps.getD 6 undef = .pointer (some ⟨b6, 0, none⟩) ∧ Aside0 (Chan w0 W g f gr s c v mode since last run band noise rough count known l) ∧ Aside0 (Kept w W (fun k => k = g)) ∧ Aside0 (W.heap[b6]? = some (.cells #[X0, X1, X2] 26 (0, 0))))
 ·
  intro join
  have JN := am join
  clear join
  by_cases h0 : e1 = 0
  ·
   have q1 : (e1 == 0) = true := by simp [h0]
   have q2 : decide (e1 = 0) = true := decide_eq_true h0
   go_wp2_with fail
   obtain ⟨hx0, hx1, hx2⟩ := HX1.out h0
   replace H6 := am (show w2.heap[b6]? = some (Obj.cells #[X0, X1, X2] 26 (0, 0)) by rw [hx0, hx1, hx2]; exact H6.out)
   refine JN.out _ _ ?_
   exact ⟨rfl, rfl, rfl, rfl, rfl, H, HK, H6⟩
  skip
  have q1' : (e1 == 0) = false := by simp [h0]
  have q2' : decide (e1 = 0) = false := decide_eq_false h0
  have yg0 := bcv H.out.hg 0 (.int .i64 s.x0) rfl
  have yg1 := bcv H.out.hg 1 (.int .i64 s.x1) rfl
  have yg2 := bcv H.out.hg 2 (.int .i64 s.x2) rfl
  have y60 := b_v H6 0 (.int .i64 r0) rfl
  have f60 := b_z H6 0
  have y61 := b_v H6 1 (.int .i64 r1) rfl
  have f61 := b_z H6 1
  have y62 := b_v H6 2 (.int .i64 r2) rfl
  have f62 := b_z H6 2
  go_wp2_with fail
  clear yg0 yg1 yg2
  clear y60 y61 y62 f60 f61 f62
  have qs0 := blk_set H6.out 0 (.int .i64 s.x0)
  have qs1 := blk_set qs0 1 (.int .i64 s.x1)
  have qs2 := blk_set qs1 2 (.int .i64 s.x2)
  have qa := qs2.trans (show _ = some (Obj.cells #[s.x0, s.x1, s.x2] 26 (0, 0)) from rfl)
  have qk := (((Kept.refl w2 (fun k => k = b6)).setCell (p := ⟨b6, 0, none⟩) (.inl rfl) (.int .i64 s.x0)).setCell (p := ⟨b6, 1, none⟩) (.inl rfl) (.int .i64 s.x1)).setCell (p := ⟨b6, 2, none⟩) (.inl rfl) (.int .i64 s.x2)
  have qb := ((H.out.hb.setCell (p := ⟨b6, 0, none⟩) (Nat.le_trans hw0 l6) (.int .i64 s.x0)).setCell (p := ⟨b6, 1, none⟩) (Nat.le_trans hw0 l6) (.int .i64 s.x1)).setCell (p := ⟨b6, 2, none⟩) (Nat.le_trans hw0 l6) (.int .i64 s.x2)
  have qh := H.out.but H6.out (by decide) qk qb
  have qK := HK.out.then_ qk (fun k hk => .inr (by rw [hk]; exact l6))
  clear H HK H6 qs0 qs1 qs2 qk qb
  generalize ((w2.setCell ⟨b6, 0, none⟩ (.int .i64 s.x0)).setCell ⟨b6, 1, none⟩ (.int .i64 s.x1)).setCell ⟨b6, 2, none⟩ (.int .i64 s.x2) = w3 at qa qh qK ⊢
  have H := am qh
  have HK := am qK
  have H6 := am qa
  clear qa qh qK
  obtain ⟨hx0, hx1, hx2⟩ := HX2.out h0
  replace H6 := am (show w3.heap[b6]? = some (Obj.cells #[X0, X1, X2] 26 (0, 0)) by rw [hx0, hx1, hx2]; exact H6.out)
  refine JN.out _ _ ?_
  exact ⟨rfl, rfl, rfl, rfl, rfl, H, HK, H6⟩
 clear H HK H6
 rintro a u0 ⟨hsz, hd, e0, e2, e6, H, HK, H6⟩
 obtain ⟨T, ds⟩ := a
 obtain rfl : ds = [] := hd
 obtain ⟨S, rfl⟩ := mlit3 T _ _ _ hsz e0 e2 e6
 clear hsz e0 e2 e6
 refine HKA.out _ _ ?_
 clear HKA
 go_upto_region 3 with fail
 apply cut1_ (fun b8 W => w.heap.size ≤ b8 ∧ b6 ≠ b8 ∧ Aside0 (Chan w0 W g f gr s c v mode since last run band noise rough count known l) ∧ Aside0 (Kept w W (fun k => k = g)) ∧ Aside0 (W.heap[b6]? = some (.cells #[X0, X1, X2] 26 (0, 0))) ∧ Aside0 (W.heap[b8]? = some (.cells #[q0, q1, q2, q3, q4, q5] 46 (0, 0))))
 ·
  intro join
  refine s_t 18 (fun w' => w'.heap[g]? = some (.cells (chanV s c f gr v mode since) 56 (0, 0))) H.out.hg (fun hHeld => ?_)
  replace H := am (H.out.drewN 1)
  replace HK := am (HK.out.drew)
  replace H6 := b_d H6
  change Aside0 (Chan w0 u0.drew _ _ _ _ _ _ _ _ _ _ _ _ _ _ _ _) at H
  generalize u0.drew = u1 at H HK H6 hHeld ⊢
  refine p_u 0 28 18 1 ?_
  refine p_u 1 29 18 3 ?_
  refine p_u 2 30 18 7 ?_
  refine p_u 3 31 18 15 ?_
  refine t_a 4 32 18 31 hHeld ?_ (hv := by rintro w' s0; have x0 := bcv s0 3 (.int .i64 s.p0) rfl; have x1 := bcv s0 4 (.int .i64 s.p1) rfl; have x2 := bcv s0 5 (.int .i64 s.p2) rfl; have x3 := bcv s0 6 (.int .i64 s.p3) rfl; have x4 := bcv s0 7 (.int .i64 s.p4) rfl; have x5 := bcv s0 8 (.int .i64 s.p5) rfl; go_simp; with_reducible rfl)
  refine p_u 5 33 18 63 ?_
  refine p_u 6 34 18 127 ?_
  refine p_u 7 35 18 255 ?_
  refine t_a 8 36 18 511 hHeld ?_ (hv := by rintro w' s0; have x0 := bcv s0 40 (.pointer (some ⟨f, 0, none⟩)) rfl; go_simp; with_reducible rfl)
  refine p_u 9 37 18 1023 ?_
  refine two_ (i := 10) (j := 15) (Ni := (some 38)) (Nj := (some 8)) (flg 18 2047) (flg 18 33791) rfl rfl rfl rfl (by kernel_rfl) (by decide) (by decide) (fun K hK => ?_) (fun K hK => ?_)
  ·
   skip
   refine g_s Tryz.func69 #[.pointer (some ⟨f, 0, none⟩), .bool hd] ?_
   refine (HADD.out u1 f last run H.out.hf).mono ?_
   rintro e u2 ⟨rfl, hb⟩
   replace H := am (H.out.below hb)
   replace HK := am (HK.out.below hb)
   replace H6 := b_b H6 hb
   clear hb hHeld
   refine ⟨_, rfl, ?_⟩
   refine hK.out _ _ H.out.hg (fun hHeld => ?_)
   clear hK K
   refine n_o 38 ?_
   refine two_ (i := 11) (j := 15) (Ni := (some 39)) (Nj := (some 8)) (flg 18 4095) (flg 18 34815) rfl rfl rfl rfl (by kernel_rfl) (by decide) (by decide) (fun K hK => ?_) (fun K hK => ?_)
   ·
    skip
    refine g_s Tryz.func68 #[.agg #[s.p0, s.p1, s.p2, s.p3, s.p4, s.p5], .agg #[a0, a1, a2]] ?_
    refine (HSP.out u2 (HG.out.below H.out.hb)).mono ?_
    rintro e u3 ⟨rfl, hb⟩
    replace H := am (H.out.below hb)
    replace HK := am (HK.out.below hb)
    replace H6 := b_b H6 hb
    clear hb hHeld
    refine ⟨_, rfl, ?_⟩
    refine hK.out _ _ H.out.hg (fun hHeld => ?_)
    clear hK K
    refine n_o 39 ?_
    refine p_u 12 27 18 8191 ?_
    refine p_u 13 40 18 16383 ?_
    refine p_u 14 41 18 32767 ?_
    refine o_n 15 8 18 65535 fun K hK => ?_
    refine event_step (v := .pointer (some ⟨u3.heap.size, 0, none⟩)) (w1 := u3.alloc (.cells #[(), (), (), (), (), ()] 46)) (by rfl) (by first | (go_simp; done) | (go_simp; rfl)) ?_
    have n6_8 : b6 ≠ u3.heap.size := Nat.ne_of_lt (blk_lt H6.out)
    have l8 : w.heap.size ≤ u3.heap.size := HK.out.1
    replace H := am (H.out.alloc (.cells #[(), (), (), (), (), ()] 46))
    replace HK := am (HK.out.alloc (.cells #[(), (), (), (), (), ()] 46))
    replace H6 := am (blk_alloc H6.out (.cells #[(), (), (), (), (), ()] 46))
    have H8 := am (blk_new u3 (.cells #[(), (), (), (), (), ()] 46))
    generalize u3.alloc (.cells #[(), (), (), (), (), ()] 46) = u4 at H HK H8 H6 ⊢
    generalize u3.heap.size = b8 at H8 l8 n6_8 ⊢
    clear hHeld
    refine hK.out _ _ H.out.hg (fun hHeld => ?_)
    clear hK K
    refine n_o 8 ?_
    have y80 := b_v H8 0 (.int .i64 0) rfl
    have f80 := b_z H8 0
    have y81 := b_v H8 1 (.int .i64 0) rfl
    have f81 := b_z H8 1
    have y82 := b_v H8 2 (.int .i64 0) rfl
    have f82 := b_z H8 2
    have y83 := b_v H8 3 (.int .i64 0) rfl
    have f83 := b_z H8 3
    have y84 := b_v H8 4 (.int .i64 0) rfl
    have f84 := b_z H8 4
    have y85 := b_v H8 5 (.int .i64 0) rfl
    have f85 := b_z H8 5
    refine o_0 16 18 131071 fun K hK => ?_
    refine s_k ((((((u4.setCell ⟨b8, 0, none⟩ (.int .i64 q0)).setCell ⟨b8, 1, none⟩ (.int .i64 q1)).setCell ⟨b8, 2, none⟩ (.int .i64 q2)).setCell ⟨b8, 3, none⟩ (.int .i64 q3)).setCell ⟨b8, 4, none⟩ (.int .i64 q4)).setCell ⟨b8, 5, none⟩ (.int .i64 q5)) ?_
    clear hHeld
    clear y80 y81 y82 y83 y84 y85 f80 f81 f82 f83 f84 f85
    have qs0 := blk_set H8.out 0 (.int .i64 q0)
    have qs1 := blk_set qs0 1 (.int .i64 q1)
    have qs2 := blk_set qs1 2 (.int .i64 q2)
    have qs3 := blk_set qs2 3 (.int .i64 q3)
    have qs4 := blk_set qs3 4 (.int .i64 q4)
    have qs5 := blk_set qs4 5 (.int .i64 q5)
    have qa := qs5.trans (show _ = some (Obj.cells #[q0, q1, q2, q3, q4, q5] 46 (0, 0)) from rfl)
    have qk := ((((((Kept.refl u4 (fun k => k = b8)).setCell (p := ⟨b8, 0, none⟩) (.inl rfl) (.int .i64 q0)).setCell (p := ⟨b8, 1, none⟩) (.inl rfl) (.int .i64 q1)).setCell (p := ⟨b8, 2, none⟩) (.inl rfl) (.int .i64 q2)).setCell (p := ⟨b8, 3, none⟩) (.inl rfl) (.int .i64 q3)).setCell (p := ⟨b8, 4, none⟩) (.inl rfl) (.int .i64 q4)).setCell (p := ⟨b8, 5, none⟩) (.inl rfl) (.int .i64 q5)
    have qb := (((((H.out.hb.setCell (p := ⟨b8, 0, none⟩) (Nat.le_trans hw0 l8) (.int .i64 q0)).setCell (p := ⟨b8, 1, none⟩) (Nat.le_trans hw0 l8) (.int .i64 q1)).setCell (p := ⟨b8, 2, none⟩) (Nat.le_trans hw0 l8) (.int .i64 q2)).setCell (p := ⟨b8, 3, none⟩) (Nat.le_trans hw0 l8) (.int .i64 q3)).setCell (p := ⟨b8, 4, none⟩) (Nat.le_trans hw0 l8) (.int .i64 q4)).setCell (p := ⟨b8, 5, none⟩) (Nat.le_trans hw0 l8) (.int .i64 q5)
    have qh := H.out.but H8.out (by decide) qk qb
    have qo6 := blk_kept H6.out qk (show b6 ≠ b8 from n6_8)
    have qK := HK.out.then_ qk (fun k hk => .inr (by rw [hk]; exact l8))
    clear H HK H8 H6 qs0 qs1 qs2 qs3 qs4 qs5 qk qb
    generalize (((((u4.setCell ⟨b8, 0, none⟩ (.int .i64 q0)).setCell ⟨b8, 1, none⟩ (.int .i64 q1)).setCell ⟨b8, 2, none⟩ (.int .i64 q2)).setCell ⟨b8, 3, none⟩ (.int .i64 q3)).setCell ⟨b8, 4, none⟩ (.int .i64 q4)).setCell ⟨b8, 5, none⟩ (.int .i64 q5) = u5 at qa qh qK qo6 ⊢
    have H := am qh
    have HK := am qK
    have H8 := am qa
    have H6 := am qo6
    clear qa qh qK qo6
    refine hK.out _ _ H.out.hg (fun hHeld => ?_)
    clear hK K
    refine p_u 17 7 18 262143 ?_
    refine d_n ?_
    exact join b8 u5 ⟨l8, n6_8, H, HK, H6, H8⟩
   skip
   refine event_step (v := .pointer (some ⟨u2.heap.size, 0, none⟩)) (w1 := u2.alloc (.cells #[(), (), (), (), (), ()] 46)) (by rfl) (by first | (go_simp; done) | (go_simp; rfl)) ?_
   have n6_8 : b6 ≠ u2.heap.size := Nat.ne_of_lt (blk_lt H6.out)
   have l8 : w.heap.size ≤ u2.heap.size := HK.out.1
   replace H := am (H.out.alloc (.cells #[(), (), (), (), (), ()] 46))
   replace HK := am (HK.out.alloc (.cells #[(), (), (), (), (), ()] 46))
   replace H6 := am (blk_alloc H6.out (.cells #[(), (), (), (), (), ()] 46))
   have H8 := am (blk_new u2 (.cells #[(), (), (), (), (), ()] 46))
   generalize u2.alloc (.cells #[(), (), (), (), (), ()] 46) = u3 at H HK H8 H6 ⊢
   generalize u2.heap.size = b8 at H8 l8 n6_8 ⊢
   clear hHeld
   refine hK.out _ _ H.out.hg (fun hHeld => ?_)
   clear hK K
   refine n_o 8 ?_
   refine o_n 11 39 18 36863 fun K hK => ?_
   refine g_s Tryz.func68 #[.agg #[s.p0, s.p1, s.p2, s.p3, s.p4, s.p5], .agg #[a0, a1, a2]] ?_
   refine (HSP.out u3 (HG.out.below H.out.hb)).mono ?_
   rintro e u4 ⟨rfl, hb⟩
   replace H := am (H.out.below hb)
   replace HK := am (HK.out.below hb)
   replace H6 := b_b H6 hb
   replace H8 := b_b H8 hb
   clear hb hHeld
   refine ⟨_, rfl, ?_⟩
   refine hK.out _ _ H.out.hg (fun hHeld => ?_)
   clear hK K
   refine n_o 39 ?_
   refine p_u 12 27 18 40959 ?_
   refine p_u 13 40 18 49151 ?_
   refine p_u 14 41 18 65535 ?_
   have y80 := b_v H8 0 (.int .i64 0) rfl
   have f80 := b_z H8 0
   have y81 := b_v H8 1 (.int .i64 0) rfl
   have f81 := b_z H8 1
   have y82 := b_v H8 2 (.int .i64 0) rfl
   have f82 := b_z H8 2
   have y83 := b_v H8 3 (.int .i64 0) rfl
   have f83 := b_z H8 3
   have y84 := b_v H8 4 (.int .i64 0) rfl
   have f84 := b_z H8 4
   have y85 := b_v H8 5 (.int .i64 0) rfl
   have f85 := b_z H8 5
   refine o_0 16 18 131071 fun K hK => ?_
   refine s_k ((((((u4.setCell ⟨b8, 0, none⟩ (.int .i64 q0)).setCell ⟨b8, 1, none⟩ (.int .i64 q1)).setCell ⟨b8, 2, none⟩ (.int .i64 q2)).setCell ⟨b8, 3, none⟩ (.int .i64 q3)).setCell ⟨b8, 4, none⟩ (.int .i64 q4)).setCell ⟨b8, 5, none⟩ (.int .i64 q5)) ?_
   clear hHeld
   clear y80 y81 y82 y83 y84 y85 f80 f81 f82 f83 f84 f85
   have qs0 := blk_set H8.out 0 (.int .i64 q0)
   have qs1 := blk_set qs0 1 (.int .i64 q1)
   have qs2 := blk_set qs1 2 (.int .i64 q2)
   have qs3 := blk_set qs2 3 (.int .i64 q3)
   have qs4 := blk_set qs3 4 (.int .i64 q4)
   have qs5 := blk_set qs4 5 (.int .i64 q5)
   have qa := qs5.trans (show _ = some (Obj.cells #[q0, q1, q2, q3, q4, q5] 46 (0, 0)) from rfl)
   have qk := ((((((Kept.refl u4 (fun k => k = b8)).setCell (p := ⟨b8, 0, none⟩) (.inl rfl) (.int .i64 q0)).setCell (p := ⟨b8, 1, none⟩) (.inl rfl) (.int .i64 q1)).setCell (p := ⟨b8, 2, none⟩) (.inl rfl) (.int .i64 q2)).setCell (p := ⟨b8, 3, none⟩) (.inl rfl) (.int .i64 q3)).setCell (p := ⟨b8, 4, none⟩) (.inl rfl) (.int .i64 q4)).setCell (p := ⟨b8, 5, none⟩) (.inl rfl) (.int .i64 q5)
   have qb := (((((H.out.hb.setCell (p := ⟨b8, 0, none⟩) (Nat.le_trans hw0 l8) (.int .i64 q0)).setCell (p := ⟨b8, 1, none⟩) (Nat.le_trans hw0 l8) (.int .i64 q1)).setCell (p := ⟨b8, 2, none⟩) (Nat.le_trans hw0 l8) (.int .i64 q2)).setCell (p := ⟨b8, 3, none⟩) (Nat.le_trans hw0 l8) (.int .i64 q3)).setCell (p := ⟨b8, 4, none⟩) (Nat.le_trans hw0 l8) (.int .i64 q4)).setCell (p := ⟨b8, 5, none⟩) (Nat.le_trans hw0 l8) (.int .i64 q5)
   have qh := H.out.but H8.out (by decide) qk qb
   have qo6 := blk_kept H6.out qk (show b6 ≠ b8 from n6_8)
   have qK := HK.out.then_ qk (fun k hk => .inr (by rw [hk]; exact l8))
   clear H HK H8 H6 qs0 qs1 qs2 qs3 qs4 qs5 qk qb
   generalize (((((u4.setCell ⟨b8, 0, none⟩ (.int .i64 q0)).setCell ⟨b8, 1, none⟩ (.int .i64 q1)).setCell ⟨b8, 2, none⟩ (.int .i64 q2)).setCell ⟨b8, 3, none⟩ (.int .i64 q3)).setCell ⟨b8, 4, none⟩ (.int .i64 q4)).setCell ⟨b8, 5, none⟩ (.int .i64 q5) = u5 at qa qh qK qo6 ⊢
   have H := am qh
   have HK := am qK
   have H8 := am qa
   have H6 := am qo6
   clear qa qh qK qo6
   refine hK.out _ _ H.out.hg (fun hHeld => ?_)
   clear hK K
   refine p_u 17 7 18 262143 ?_
   refine d_n ?_
   exact join b8 u5 ⟨l8, n6_8, H, HK, H6, H8⟩
  skip
  refine event_step (v := .pointer (some ⟨u1.heap.size, 0, none⟩)) (w1 := u1.alloc (.cells #[(), (), (), (), (), ()] 46)) (by rfl) (by first | (go_simp; done) | (go_simp; rfl)) ?_
  have n6_8 : b6 ≠ u1.heap.size := Nat.ne_of_lt (blk_lt H6.out)
  have l8 : w.heap.size ≤ u1.heap.size := HK.out.1
  replace H := am (H.out.alloc (.cells #[(), (), (), (), (), ()] 46))
  replace HK := am (HK.out.alloc (.cells #[(), (), (), (), (), ()] 46))
  replace H6 := am (blk_alloc H6.out (.cells #[(), (), (), (), (), ()] 46))
  have H8 := am (blk_new u1 (.cells #[(), (), (), (), (), ()] 46))
  generalize u1.alloc (.cells #[(), (), (), (), (), ()] 46) = u2 at H HK H8 H6 ⊢
  generalize u1.heap.size = b8 at H8 l8 n6_8 ⊢
  clear hHeld
  refine hK.out _ _ H.out.hg (fun hHeld => ?_)
  clear hK K
  refine n_o 8 ?_
  refine o_n 10 38 18 34815 fun K hK => ?_
  refine g_s Tryz.func69 #[.pointer (some ⟨f, 0, none⟩), .bool hd] ?_
  refine (HADD.out u2 f last run H.out.hf).mono ?_
  rintro e u3 ⟨rfl, hb⟩
  replace H := am (H.out.below hb)
  replace HK := am (HK.out.below hb)
  replace H6 := b_b H6 hb
  replace H8 := b_b H8 hb
  clear hb hHeld
  refine ⟨_, rfl, ?_⟩
  refine hK.out _ _ H.out.hg (fun hHeld => ?_)
  clear hK K
  refine n_o 38 ?_
  refine o_n 11 39 18 36863 fun K hK => ?_
  refine g_s Tryz.func68 #[.agg #[s.p0, s.p1, s.p2, s.p3, s.p4, s.p5], .agg #[a0, a1, a2]] ?_
  refine (HSP.out u3 (HG.out.below H.out.hb)).mono ?_
  rintro e u4 ⟨rfl, hb⟩
  replace H := am (H.out.below hb)
  replace HK := am (HK.out.below hb)
  replace H6 := b_b H6 hb
  replace H8 := b_b H8 hb
  clear hb hHeld
  refine ⟨_, rfl, ?_⟩
  refine hK.out _ _ H.out.hg (fun hHeld => ?_)
  clear hK K
  refine n_o 39 ?_
  refine p_u 12 27 18 40959 ?_
  refine p_u 13 40 18 49151 ?_
  refine p_u 14 41 18 65535 ?_
  have y80 := b_v H8 0 (.int .i64 0) rfl
  have f80 := b_z H8 0
  have y81 := b_v H8 1 (.int .i64 0) rfl
  have f81 := b_z H8 1
  have y82 := b_v H8 2 (.int .i64 0) rfl
  have f82 := b_z H8 2
  have y83 := b_v H8 3 (.int .i64 0) rfl
  have f83 := b_z H8 3
  have y84 := b_v H8 4 (.int .i64 0) rfl
  have f84 := b_z H8 4
  have y85 := b_v H8 5 (.int .i64 0) rfl
  have f85 := b_z H8 5
  refine o_0 16 18 131071 fun K hK => ?_
  refine s_k ((((((u4.setCell ⟨b8, 0, none⟩ (.int .i64 q0)).setCell ⟨b8, 1, none⟩ (.int .i64 q1)).setCell ⟨b8, 2, none⟩ (.int .i64 q2)).setCell ⟨b8, 3, none⟩ (.int .i64 q3)).setCell ⟨b8, 4, none⟩ (.int .i64 q4)).setCell ⟨b8, 5, none⟩ (.int .i64 q5)) ?_
  clear hHeld
  clear y80 y81 y82 y83 y84 y85 f80 f81 f82 f83 f84 f85
  have qs0 := blk_set H8.out 0 (.int .i64 q0)
  have qs1 := blk_set qs0 1 (.int .i64 q1)
  have qs2 := blk_set qs1 2 (.int .i64 q2)
  have qs3 := blk_set qs2 3 (.int .i64 q3)
  have qs4 := blk_set qs3 4 (.int .i64 q4)
  have qs5 := blk_set qs4 5 (.int .i64 q5)
  have qa := qs5.trans (show _ = some (Obj.cells #[q0, q1, q2, q3, q4, q5] 46 (0, 0)) from rfl)
  have qk := ((((((Kept.refl u4 (fun k => k = b8)).setCell (p := ⟨b8, 0, none⟩) (.inl rfl) (.int .i64 q0)).setCell (p := ⟨b8, 1, none⟩) (.inl rfl) (.int .i64 q1)).setCell (p := ⟨b8, 2, none⟩) (.inl rfl) (.int .i64 q2)).setCell (p := ⟨b8, 3, none⟩) (.inl rfl) (.int .i64 q3)).setCell (p := ⟨b8, 4, none⟩) (.inl rfl) (.int .i64 q4)).setCell (p := ⟨b8, 5, none⟩) (.inl rfl) (.int .i64 q5)
  have qb := (((((H.out.hb.setCell (p := ⟨b8, 0, none⟩) (Nat.le_trans hw0 l8) (.int .i64 q0)).setCell (p := ⟨b8, 1, none⟩) (Nat.le_trans hw0 l8) (.int .i64 q1)).setCell (p := ⟨b8, 2, none⟩) (Nat.le_trans hw0 l8) (.int .i64 q2)).setCell (p := ⟨b8, 3, none⟩) (Nat.le_trans hw0 l8) (.int .i64 q3)).setCell (p := ⟨b8, 4, none⟩) (Nat.le_trans hw0 l8) (.int .i64 q4)).setCell (p := ⟨b8, 5, none⟩) (Nat.le_trans hw0 l8) (.int .i64 q5)
  have qh := H.out.but H8.out (by decide) qk qb
  have qo6 := blk_kept H6.out qk (show b6 ≠ b8 from n6_8)
  have qK := HK.out.then_ qk (fun k hk => .inr (by rw [hk]; exact l8))
  clear H HK H8 H6 qs0 qs1 qs2 qs3 qs4 qs5 qk qb
  generalize (((((u4.setCell ⟨b8, 0, none⟩ (.int .i64 q0)).setCell ⟨b8, 1, none⟩ (.int .i64 q1)).setCell ⟨b8, 2, none⟩ (.int .i64 q2)).setCell ⟨b8, 3, none⟩ (.int .i64 q3)).setCell ⟨b8, 4, none⟩ (.int .i64 q4)).setCell ⟨b8, 5, none⟩ (.int .i64 q5) = u5 at qa qh qK qo6 ⊢
  have H := am qh
  have HK := am qK
  have H8 := am qa
  have H6 := am qo6
  clear qa qh qK qo6
  refine hK.out _ _ H.out.hg (fun hHeld => ?_)
  clear hK K
  refine p_u 17 7 18 262143 ?_
  refine d_n ?_
  exact join b8 u5 ⟨l8, n6_8, H, HK, H6, H8⟩
 clear H HK H6
 rintro b8 v1 ⟨l8, n6_8, H, HK, H6, H8⟩
 go_upto_region 4 with fail
 rename_i KA hKA KB hKB
 have HKA := am hKA
 clear hKA
 apply cutA_ (K := KA) (fun a W => a.tmps.size = 65 ∧ a.defers = [] ∧ a.tmps.getD 0 undef = .pointer (some ⟨g, 0, none⟩) ∧ a.tmps.getD 6 undef = .pointer (some ⟨b6, 0, none⟩) ∧ a.tmps.getD 7 undef = .int .i64 e2 ∧ a.tmps.getD 8 undef = .pointer (some ⟨b8, 0, none⟩) ∧ Aside0 (Chan w0 W g f gr s c v mode since last run band noise rough count known l) ∧ Aside0 (Kept w W (fun k => k = g)) ∧ Aside0 (W.heap[b6]? = some (.cells #[X0, X1, X2] 26 (0, 0))) ∧ Aside0 (W.heap[b8]? = some (.cells #[P0, P1, P2, P3, P4, P5] 46 (0, 0))))
 ·
  intro join
  have JN := am join
  clear join
  by_cases h0 : e2 = 0
  ·
   have q1 : (e2 == 0) = true := by simp [h0]
   have q2 : decide (e2 = 0) = true := decide_eq_true h0
   go_wp2_with fail
   obtain ⟨hx0, hx1, hx2, hx3, hx4, hx5⟩ := HP1.out h0
   replace H8 := am (show v1.heap[b8]? = some (Obj.cells #[P0, P1, P2, P3, P4, P5] 46 (0, 0)) by rw [hx0, hx1, hx2, hx3, hx4, hx5]; exact H8.out)
   refine JN.out _ _ ?_
   exact ⟨rfl, rfl, rfl, rfl, rfl, rfl, H, HK, H6, H8⟩
  skip
  have q1' : (e2 == 0) = false := by simp [h0]
  have q2' : decide (e2 = 0) = false := decide_eq_false h0
  have yg3 := bcv H.out.hg 3 (.int .i64 s.p0) rfl
  have yg4 := bcv H.out.hg 4 (.int .i64 s.p1) rfl
  have yg5 := bcv H.out.hg 5 (.int .i64 s.p2) rfl
  have yg6 := bcv H.out.hg 6 (.int .i64 s.p3) rfl
  have yg7 := bcv H.out.hg 7 (.int .i64 s.p4) rfl
  have yg8 := bcv H.out.hg 8 (.int .i64 s.p5) rfl
  have y80 := b_v H8 0 (.int .i64 q0) rfl
  have f80 := b_z H8 0
  have y81 := b_v H8 1 (.int .i64 q1) rfl
  have f81 := b_z H8 1
  have y82 := b_v H8 2 (.int .i64 q2) rfl
  have f82 := b_z H8 2
  have y83 := b_v H8 3 (.int .i64 q3) rfl
  have f83 := b_z H8 3
  have y84 := b_v H8 4 (.int .i64 q4) rfl
  have f84 := b_z H8 4
  have y85 := b_v H8 5 (.int .i64 q5) rfl
  have f85 := b_z H8 5
  go_wp2_with fail
  clear yg3 yg4 yg5 yg6 yg7 yg8
  clear y80 y81 y82 y83 y84 y85 f80 f81 f82 f83 f84 f85
  have qs0 := blk_set H8.out 0 (.int .i64 s.p0)
  have qs1 := blk_set qs0 1 (.int .i64 s.p1)
  have qs2 := blk_set qs1 2 (.int .i64 s.p2)
  have qs3 := blk_set qs2 3 (.int .i64 s.p3)
  have qs4 := blk_set qs3 4 (.int .i64 s.p4)
  have qs5 := blk_set qs4 5 (.int .i64 s.p5)
  have qa := qs5.trans (show _ = some (Obj.cells #[s.p0, s.p1, s.p2, s.p3, s.p4, s.p5] 46 (0, 0)) from rfl)
  have qk := ((((((Kept.refl v1 (fun k => k = b8)).setCell (p := ⟨b8, 0, none⟩) (.inl rfl) (.int .i64 s.p0)).setCell (p := ⟨b8, 1, none⟩) (.inl rfl) (.int .i64 s.p1)).setCell (p := ⟨b8, 2, none⟩) (.inl rfl) (.int .i64 s.p2)).setCell (p := ⟨b8, 3, none⟩) (.inl rfl) (.int .i64 s.p3)).setCell (p := ⟨b8, 4, none⟩) (.inl rfl) (.int .i64 s.p4)).setCell (p := ⟨b8, 5, none⟩) (.inl rfl) (.int .i64 s.p5)
  have qb := (((((H.out.hb.setCell (p := ⟨b8, 0, none⟩) (Nat.le_trans hw0 l8) (.int .i64 s.p0)).setCell (p := ⟨b8, 1, none⟩) (Nat.le_trans hw0 l8) (.int .i64 s.p1)).setCell (p := ⟨b8, 2, none⟩) (Nat.le_trans hw0 l8) (.int .i64 s.p2)).setCell (p := ⟨b8, 3, none⟩) (Nat.le_trans hw0 l8) (.int .i64 s.p3)).setCell (p := ⟨b8, 4, none⟩) (Nat.le_trans hw0 l8) (.int .i64 s.p4)).setCell (p := ⟨b8, 5, none⟩) (Nat.le_trans hw0 l8) (.int .i64 s.p5)
  have qh := H.out.but H8.out (by decide) qk qb
  have qo6 := blk_kept H6.out qk (show b6 ≠ b8 from n6_8)
  have qK := HK.out.then_ qk (fun k hk => .inr (by rw [hk]; exact l8))
  clear H HK H8 H6 qs0 qs1 qs2 qs3 qs4 qs5 qk qb
  generalize (((((v1.setCell ⟨b8, 0, none⟩ (.int .i64 s.p0)).setCell ⟨b8, 1, none⟩ (.int .i64 s.p1)).setCell ⟨b8, 2, none⟩ (.int .i64 s.p2)).setCell ⟨b8, 3, none⟩ (.int .i64 s.p3)).setCell ⟨b8, 4, none⟩ (.int .i64 s.p4)).setCell ⟨b8, 5, none⟩ (.int .i64 s.p5) = v2 at qa qh qK qo6 ⊢
  have H := am qh
  have HK := am qK
  have H8 := am qa
  have H6 := am qo6
  clear qa qh qK qo6
  obtain ⟨hx0, hx1, hx2, hx3, hx4, hx5⟩ := HP2.out h0
  replace H8 := am (show v2.heap[b8]? = some (Obj.cells #[P0, P1, P2, P3, P4, P5] 46 (0, 0)) by rw [hx0, hx1, hx2, hx3, hx4, hx5]; exact H8.out)
  refine JN.out _ _ ?_
  exact ⟨rfl, rfl, rfl, rfl, rfl, rfl, H, HK, H6, H8⟩
 clear H HK H6 H8
 rintro a v3 ⟨hsz, hd, e0, e6, e7, e8, H, HK, H6, H8⟩
 obtain ⟨T, ds⟩ := a
 obtain rfl : ds = [] := hd
 obtain ⟨S, rfl⟩ := mlit6 T _ _ _ _ hsz e0 e6 e7 e8
 clear hsz e0 e6 e7 e8
 refine HKA.out _ _ ?_
 clear HKA
 have y60 := b_v H6 0 (.int .i64 X0) rfl
 have y61 := b_v H6 1 (.int .i64 X1) rfl
 have y62 := b_v H6 2 (.int .i64 X2) rfl
 have y80 := b_v H8 0 (.int .i64 P0) rfl
 have y81 := b_v H8 1 (.int .i64 P1) rfl
 have y82 := b_v H8 2 (.int .i64 P2) rfl
 have y83 := b_v H8 3 (.int .i64 P3) rfl
 have y84 := b_v H8 4 (.int .i64 P4) rfl
 have y85 := b_v H8 5 (.int .i64 P5) rfl
 go_wp2_with fail
 refine (HKE.out v3 g f gr s v mode since (HG.out.below H.out.hb) H.out.hg).mono ?_
 rintro e v4 ⟨rfl, hb⟩
 replace H := am (H.out.below hb)
 replace HK := am (HK.out.below hb)
 replace H6 := b_b H6 hb
 replace H8 := b_b H8 hb
 clear hb
 clear y60 y61 y62
 clear y80 y81 y82 y83 y84 y85
 unfold gsV
 go_upto_region 7 with fail
 have l9 : w.heap.size ≤ v4.heap.size := HK.out.1
 replace H := am (H.out.alloc (.cells #[k.x0, k.x1, k.x2, k.p0, k.p1, k.p2, k.p3, k.p4, k.p5] 50))
 replace HK := am (HK.out.alloc (.cells #[k.x0, k.x1, k.x2, k.p0, k.p1, k.p2, k.p3, k.p4, k.p5] 50))
 have H9 := am (blk_new v4 (.cells #[k.x0, k.x1, k.x2, k.p0, k.p1, k.p2, k.p3, k.p4, k.p5] 50))
 generalize v4.alloc (.cells #[k.x0, k.x1, k.x2, k.p0, k.p1, k.p2, k.p3, k.p4, k.p5] 50) = v5 at H HK H9 ⊢
 generalize v4.heap.size = b9 at H9 l9 ⊢
 clear H6 H8
 rename_i KA hKA KB hKB
 have HKA := am hKA
 clear hKA
 apply cutA_ (K := KA) (fun a W => a.tmps.size = 65 ∧ a.defers = [] ∧ a.tmps.getD 0 undef = .pointer (some ⟨g, 0, none⟩) ∧ a.tmps.getD 9 undef = .pointer (some ⟨b9, 0, none⟩) ∧ Aside0 (Chan w0 W g f gr s c v mode since last run band noise rough count known l) ∧ Aside0 (Kept w W (fun k => k = g)) ∧ Aside0 (W.heap[b9]? = some (.cells #[s'.x0, s'.x1, s'.x2, s'.p0, s'.p1, s'.p2, s'.p3, s'.p4, s'.p5] 50 (0, 0))))
 ·
  intro join
  have JN := am join
  clear join
  by_cases h0 : e2 = 0
  ·
   have q1 : (e2 == 0) = true := by simp [h0]
   have q2 : decide (e2 = 0) = true := decide_eq_true h0
   go_wp2_with fail
   have hx0 := HS1.out h0
   replace H9 := am (show v5.heap[b9]? = some (Obj.cells #[s'.x0, s'.x1, s'.x2, s'.p0, s'.p1, s'.p2, s'.p3, s'.p4, s'.p5] 50 (0, 0)) by rw [hx0]; exact H9.out)
   refine JN.out _ _ ?_
   exact ⟨rfl, rfl, rfl, rfl, H, HK, H9⟩
  skip
  have q1' : (e2 == 0) = false := by simp [h0]
  have q2' : decide (e2 = 0) = false := decide_eq_false h0
  have yg3 := bcv H.out.hg 3 (.int .i64 s.p0) rfl
  have yg4 := bcv H.out.hg 4 (.int .i64 s.p1) rfl
  have yg5 := bcv H.out.hg 5 (.int .i64 s.p2) rfl
  have yg6 := bcv H.out.hg 6 (.int .i64 s.p3) rfl
  have yg7 := bcv H.out.hg 7 (.int .i64 s.p4) rfl
  have yg8 := bcv H.out.hg 8 (.int .i64 s.p5) rfl
  have y93 := b_v H9 3 (.int .i64 k.p0) rfl
  have f93 := b_z H9 3
  have y94 := b_v H9 4 (.int .i64 k.p1) rfl
  have f94 := b_z H9 4
  have y95 := b_v H9 5 (.int .i64 k.p2) rfl
  have f95 := b_z H9 5
  have y96 := b_v H9 6 (.int .i64 k.p3) rfl
  have f96 := b_z H9 6
  have y97 := b_v H9 7 (.int .i64 k.p4) rfl
  have f97 := b_z H9 7
  have y98 := b_v H9 8 (.int .i64 k.p5) rfl
  have f98 := b_z H9 8
  go_wp2_with fail
  clear yg3 yg4 yg5 yg6 yg7 yg8
  clear y93 y94 y95 y96 y97 y98 f93 f94 f95 f96 f97 f98
  have qs0 := blk_set H9.out 3 (.int .i64 s.p0)
  have qs1 := blk_set qs0 4 (.int .i64 s.p1)
  have qs2 := blk_set qs1 5 (.int .i64 s.p2)
  have qs3 := blk_set qs2 6 (.int .i64 s.p3)
  have qs4 := blk_set qs3 7 (.int .i64 s.p4)
  have qs5 := blk_set qs4 8 (.int .i64 s.p5)
  have qa := qs5.trans (show _ = some (Obj.cells #[k.x0, k.x1, k.x2, s.p0, s.p1, s.p2, s.p3, s.p4, s.p5] 50 (0, 0)) from rfl)
  have qk := ((((((Kept.refl v5 (fun k => k = b9)).setCell (p := ⟨b9, 3, none⟩) (.inl rfl) (.int .i64 s.p0)).setCell (p := ⟨b9, 4, none⟩) (.inl rfl) (.int .i64 s.p1)).setCell (p := ⟨b9, 5, none⟩) (.inl rfl) (.int .i64 s.p2)).setCell (p := ⟨b9, 6, none⟩) (.inl rfl) (.int .i64 s.p3)).setCell (p := ⟨b9, 7, none⟩) (.inl rfl) (.int .i64 s.p4)).setCell (p := ⟨b9, 8, none⟩) (.inl rfl) (.int .i64 s.p5)
  have qb := (((((H.out.hb.setCell (p := ⟨b9, 3, none⟩) (Nat.le_trans hw0 l9) (.int .i64 s.p0)).setCell (p := ⟨b9, 4, none⟩) (Nat.le_trans hw0 l9) (.int .i64 s.p1)).setCell (p := ⟨b9, 5, none⟩) (Nat.le_trans hw0 l9) (.int .i64 s.p2)).setCell (p := ⟨b9, 6, none⟩) (Nat.le_trans hw0 l9) (.int .i64 s.p3)).setCell (p := ⟨b9, 7, none⟩) (Nat.le_trans hw0 l9) (.int .i64 s.p4)).setCell (p := ⟨b9, 8, none⟩) (Nat.le_trans hw0 l9) (.int .i64 s.p5)
  have qh := H.out.but H9.out (by decide) qk qb
  have qK := HK.out.then_ qk (fun k hk => .inr (by rw [hk]; exact l9))
  clear H HK H9 qs0 qs1 qs2 qs3 qs4 qs5 qk qb
  generalize (((((v5.setCell ⟨b9, 3, none⟩ (.int .i64 s.p0)).setCell ⟨b9, 4, none⟩ (.int .i64 s.p1)).setCell ⟨b9, 5, none⟩ (.int .i64 s.p2)).setCell ⟨b9, 6, none⟩ (.int .i64 s.p3)).setCell ⟨b9, 7, none⟩ (.int .i64 s.p4)).setCell ⟨b9, 8, none⟩ (.int .i64 s.p5) = v6 at qa qh qK ⊢
  have H := am qh
  have HK := am qK
  have H9 := am qa
  clear qa qh qK
  have hx0 := HS2.out h0
  replace H9 := am (show v6.heap[b9]? = some (Obj.cells #[s'.x0, s'.x1, s'.x2, s'.p0, s'.p1, s'.p2, s'.p3, s'.p4, s'.p5] 50 (0, 0)) by rw [hx0]; exact H9.out)
  refine JN.out _ _ ?_
  exact ⟨rfl, rfl, rfl, rfl, H, HK, H9⟩
 clear H HK H9
 rintro a z0 ⟨hsz, hd, e0, e9, H, HK, H9⟩
 obtain ⟨T, ds⟩ := a
 obtain rfl : ds = [] := hd
 obtain ⟨S, rfl⟩ := mlit9 T _ _ hsz e0 e9
 clear hsz e0 e9
 refine HKA.out _ _ ?_
 clear HKA
 have y90 := b_v H9 0 (.int .i64 s'.x0) rfl
 have y91 := b_v H9 1 (.int .i64 s'.x1) rfl
 have y92 := b_v H9 2 (.int .i64 s'.x2) rfl
 have y93 := b_v H9 3 (.int .i64 s'.p0) rfl
 have y94 := b_v H9 4 (.int .i64 s'.p1) rfl
 have y95 := b_v H9 5 (.int .i64 s'.p2) rfl
 have y96 := b_v H9 6 (.int .i64 s'.p3) rfl
 have y97 := b_v H9 7 (.int .i64 s'.p4) rfl
 have y98 := b_v H9 8 (.int .i64 s'.p5) rfl
 have yg0 := bcv H.out.hg 0 (.int .i64 s.x0) rfl
 have fg0 := bfz H.out.hg 0
 have yg1 := bcv H.out.hg 1 (.int .i64 s.x1) rfl
 have fg1 := bfz H.out.hg 1
 have yg2 := bcv H.out.hg 2 (.int .i64 s.x2) rfl
 have fg2 := bfz H.out.hg 2
 have yg3 := bcv H.out.hg 3 (.int .i64 s.p0) rfl
 have fg3 := bfz H.out.hg 3
 have yg4 := bcv H.out.hg 4 (.int .i64 s.p1) rfl
 have fg4 := bfz H.out.hg 4
 have yg5 := bcv H.out.hg 5 (.int .i64 s.p2) rfl
 have fg5 := bfz H.out.hg 5
 have yg6 := bcv H.out.hg 6 (.int .i64 s.p3) rfl
 have fg6 := bfz H.out.hg 6
 have yg7 := bcv H.out.hg 7 (.int .i64 s.p4) rfl
 have fg7 := bfz H.out.hg 7
 have yg8 := bcv H.out.hg 8 (.int .i64 s.p5) rfl
 have fg8 := bfz H.out.hg 8
 go_wp2_with fail
 have q := H.out.guess s'
 have qk := HK.out.then_ ((((((((((Kept.refl z0 (fun k => k = g)).setCell (p := ⟨g, 0, none⟩) (.inl rfl) (.int .i64 s'.x0)).setCell (p := ⟨g, 1, none⟩) (.inl rfl) (.int .i64 s'.x1)).setCell (p := ⟨g, 2, none⟩) (.inl rfl) (.int .i64 s'.x2)).setCell (p := ⟨g, 3, none⟩) (.inl rfl) (.int .i64 s'.p0)).setCell (p := ⟨g, 4, none⟩) (.inl rfl) (.int .i64 s'.p1)).setCell (p := ⟨g, 5, none⟩) (.inl rfl) (.int .i64 s'.p2)).setCell (p := ⟨g, 6, none⟩) (.inl rfl) (.int .i64 s'.p3)).setCell (p := ⟨g, 7, none⟩) (.inl rfl) (.int .i64 s'.p4)).setCell (p := ⟨g, 8, none⟩) (.inl rfl) (.int .i64 s'.p5)) (fun k hk => .inl hk)
 refine bodyPost_end (results_none rfl _ _ _) rfl ?_
 exact ⟨rfl, q, qk⟩
end Go.Proofs.YtpdahkgandaabaaGreatDoor.Ch
