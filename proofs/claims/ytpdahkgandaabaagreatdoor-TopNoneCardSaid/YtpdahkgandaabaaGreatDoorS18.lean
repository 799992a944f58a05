/- A part of the proof of the law TopNone of the top, where the package's tables hold what their initialisers lay. -/
import Derived.Test.YtpdahkgandaabaaGreatDoorS01
import Derived.Test.YtpdahkgandaabaaGreatDoorS08
import Derived.Test.YtpdahkgandaabaaGreatDoorS12
import Derived.Test.YtpdahkgandaabaaGreatDoorS17
namespace Go.Proofs.YtpdahkgandaabaaGreatDoor.Ch
open Go.RowKit Go.Proofs.YtpdahkgandaabaaGreatDoorW.PrintWords Go.Proofs.YtpdahkgandaabaaGreatDoorW.PrintLast Go.Proofs.YtpdahkgandaabaaGreatDoorW.PrintMore Go.Proofs.YtpdahkgandaabaaGreatDoor.PTopNames Go.Proofs.YtpdahkgandaabaaGreatDoor.Al
set_option linter.unusedVariables false
set_option linter.unusedSimpArgs false
def rowS (X : Nat → Int) (c : Nat) : Array Value := #[.int .i64 (if 0 < c then X 0 else 0), .int .i64 (if 1 < c then X 1 else 0), .int .i64 (if 2 < c then X 2 else 0), .int .i64 (if 3 < c then X 3 else 0), .int .i64 (if 4 < c then X 4 else 0), .int .i64 (if 5 < c then X 5 else 0)]
theorem rowS_set (X : Nat → Int) {c : Int} (h0 : 0 ≤ c) (h1 : c < 6) : (rowS X c.toNat).setIfInBounds c.toNat (.int .i64 (X c.toNat)) = rowS X (c.toNat + 1) := by
 obtain rfl | rfl | rfl | rfl | rfl | rfl : c = 0 ∨ c = 1 ∨ c = 2 ∨ c = 3 ∨ c = 4 ∨ c = 5 := by omega
 all_goals simp [rowS]
theorem index6 (R : Nat → Wd) {c : Int} (h0 : 0 ≤ c) (h1 : c < 6) (w : World) : (Instr.index 143 (.agg #[.int .i64 (R 0).1.1, .int .u64 (R 0).1.2, .int .i64 (R 1).1.1, .int .u64 (R 1).1.2, .int .i64 (R 2).1.1, .int .u64 (R 2).1.2, .int .i64 (R 3).1.1, .int .u64 (R 3).1.2, .int .i64 (R 4).1.1, .int .u64 (R 4).1.2, .int .i64 (R 5).1.1, .int .u64 (R 5).1.2]) (.int .i64 c)).run Tryz.prog w = .ok (.agg #[.int .i64 (R c.toNat).1.1, .int .u64 (R c.toNat).1.2]) w := by
 obtain rfl | rfl | rfl | rfl | rfl | rfl : c = 0 ∨ c = 1 ∨ c = 2 ∨ c = 3 ∨ c = 4 ∨ c = 5 := by omega
 all_goals kernel_rfl
theorem halves_ex (R : Nat → Wd) : ∃ (H : Nat → Wd) (X E : Nat → Int), ∀ k, Tells 78 #[wide (R k).1.1 (R k).1.2, .int .i64 30] (.tuple #[wide (H k).1.1 (H k).1.2, .int .i64 0]) ∧ Tells 80 #[wide (H k).1.1 (H k).1.2] (Ch.two (X k) (E k)) := by
 obtain ⟨f, hf⟩ := pick (R := fun (k : Nat) (q : Wd × Int × Int) => Tells 78 #[wide (R k).1.1 (R k).1.2, .int .i64 30] (.tuple #[wide q.1.1.1 q.1.1.2, .int .i64 0]) ∧ Tells 80 #[wide q.1.1.1 q.1.1.2] (Ch.two q.2.1 q.2.2)) (fun k => by
  obtain ⟨h, l, hu, ht⟩ := half_tells (R k).1.1 (R k).1.2 30 (R k).2 (by decide) (by decide)
  obtain ⟨x, e, hx⟩ := int_tells h l
  exact ⟨(⟨(h, l), hu⟩, x, e), ht, hx⟩)
 exact ⟨fun k => (f k).1, fun k => (f k).2.1, fun k => (f k).2.2, hf⟩
set_option maxRecDepth 100000 in
set_option maxHeartbeats 4000000 in
theorem spon_tells (m0 m1 m2 m3 m4 m5 a0 a1 a2 : Int) : ∃ r0 r1 r2 r3 r4 r5 e, Tells 68 #[sym m0 m1 m2 m3 m4 m5, vec a0 a1 a2] (.tuple #[sym r0 r1 r2 r3 r4 r5, .int .i64 e]) := by
 obtain ⟨R, e0, hraw⟩ := raw_tells m0 m1 m2 m3 m4 m5
 obtain ⟨kv, hv⟩ := vfits_tells a0 a1 a2
 obtain ⟨HF, X, E, hT⟩ := halves_ex R
 obtain ⟨n0, n1, n2, n3, n4, n5, e2, hs⟩ := sadd_tells (X 0) (X 1) (X 2) (X 3) (X 4) (X 5) a0 0 0 a1 0 a2
 have HRaw := am hraw
 have HV := am hv
 have HT := am hT
 have HS := am hs
 clear hraw hv hT hs
 unfold outA at HRaw
 unfold sym vec wide Ch.two at *
 by_cases h0 : e0 = 0
 ·
  subst h0
  cases kv with
  | false =>
   refine ⟨0, 0, 0, 0, 0, 0, 1, fun w hG => ?_⟩
   have HG := am hG
   clear hG
   go_enter Tryz.func68, Tryz.ntmps68
   go_upto_region 1 with fail
   obtain ⟨x2', x3', x4', hB⟩ := blocks3 w #[.int .i64 m0, .int .i64 m1, .int .i64 m2, .int .i64 m3, .int .i64 m4, .int .i64 m5] #[.int .i64 a0, .int .i64 a1, .int .i64 a2] #[.int .i64 0, .int .i64 0, .int .i64 0, .int .i64 0, .int .i64 0, .int .i64 0] 46 26 46
   generalize ((w.alloc (.cells #[.int .i64 m0, .int .i64 m1, .int .i64 m2, .int .i64 m3, .int .i64 m4, .int .i64 m5] 46)).alloc (.cells #[.int .i64 a0, .int .i64 a1, .int .i64 a2] 26)).alloc (.cells #[.int .i64 0, .int .i64 0, .int .i64 0, .int .i64 0, .int .i64 0, .int .i64 0] 46) = w1 at x2' x3' x4' hB ⊢
   obtain ⟨b2, h2⟩ : ∃ b, b = w.heap.size := ⟨_, rfl⟩
   obtain ⟨b3, h3⟩ : ∃ b, b = w.heap.size + 1 := ⟨_, rfl⟩
   obtain ⟨b4, h4⟩ : ∃ b, b = w.heap.size + 1 + 1 := ⟨_, rfl⟩
   have g2 : w.heap.size ≤ b2 := by omega
   have g3 : w.heap.size ≤ b3 := by omega
   have g4 : w.heap.size ≤ b4 := by omega
   have n2_3 : b2 ≠ b3 := by omega
   have n2_4 : b2 ≠ b4 := by omega
   have n3_2 : b3 ≠ b2 := by omega
   have n3_4 : b3 ≠ b4 := by omega
   have n4_2 : b4 ≠ b2 := by omega
   have n4_3 : b4 ≠ b3 := by omega
   rw [← h4, ← h3, ← h2]
   rw [← h4] at x4'
   rw [← h3] at x3'
   rw [← h2] at x2'
   have H2 := am x2'
   have H3 := am x3'
   have H4 := am x4'
   have HB := am hB
   clear x2' x3' x4' hB h2 h3 h4
   have y20 := bcv H2.out 0 (.int .i64 m0) rfl
   have y21 := bcv H2.out 1 (.int .i64 m1) rfl
   have y22 := bcv H2.out 2 (.int .i64 m2) rfl
   have y23 := bcv H2.out 3 (.int .i64 m3) rfl
   have y24 := bcv H2.out 4 (.int .i64 m4) rfl
   have y25 := bcv H2.out 5 (.int .i64 m5) rfl
   go_wp2_with fail
   refine (HRaw.out w1 (HG.out.below HB.out)).mono ?_
   rintro e w2 ⟨rfl, hb⟩
   replace H2 := am (blk_below H2.out hb)
   replace H3 := am (blk_below H3.out hb)
   replace H4 := am (blk_below H4.out hb)
   replace HB := am (below_step HB.out hb)
   clear y20 y21 y22 y23 y24 y25
   clear hb
   go_upto_region 2 with fail
   replace H2 := am (blk_alloc H2.out (.cells #[.int .i64 (R 0).1.1, .int .u64 (R 0).1.2, .int .i64 (R 1).1.1, .int .u64 (R 1).1.2, .int .i64 (R 2).1.1, .int .u64 (R 2).1.2, .int .i64 (R 3).1.1, .int .u64 (R 3).1.2, .int .i64 (R 4).1.1, .int .u64 (R 4).1.2, .int .i64 (R 5).1.1, .int .u64 (R 5).1.2] 143))
   replace H3 := am (blk_alloc H3.out (.cells #[.int .i64 (R 0).1.1, .int .u64 (R 0).1.2, .int .i64 (R 1).1.1, .int .u64 (R 1).1.2, .int .i64 (R 2).1.1, .int .u64 (R 2).1.2, .int .i64 (R 3).1.1, .int .u64 (R 3).1.2, .int .i64 (R 4).1.1, .int .u64 (R 4).1.2, .int .i64 (R 5).1.1, .int .u64 (R 5).1.2] 143))
   replace H4 := am (blk_alloc H4.out (.cells #[.int .i64 (R 0).1.1, .int .u64 (R 0).1.2, .int .i64 (R 1).1.1, .int .u64 (R 1).1.2, .int .i64 (R 2).1.1, .int .u64 (R 2).1.2, .int .i64 (R 3).1.1, .int .u64 (R 3).1.2, .int .i64 (R 4).1.1, .int .u64 (R 4).1.2, .int .i64 (R 5).1.1, .int .u64 (R 5).1.2] 143))
   have H6 := am (blk_new w2 (.cells #[.int .i64 (R 0).1.1, .int .u64 (R 0).1.2, .int .i64 (R 1).1.1, .int .u64 (R 1).1.2, .int .i64 (R 2).1.1, .int .u64 (R 2).1.2, .int .i64 (R 3).1.1, .int .u64 (R 3).1.2, .int .i64 (R 4).1.1, .int .u64 (R 4).1.2, .int .i64 (R 5).1.1, .int .u64 (R 5).1.2] 143))
   have g6 : w.heap.size ≤ w2.heap.size := HB.out.size
   replace HB := am (below_alloc HB.out (.cells #[.int .i64 (R 0).1.1, .int .u64 (R 0).1.2, .int .i64 (R 1).1.1, .int .u64 (R 1).1.2, .int .i64 (R 2).1.1, .int .u64 (R 2).1.2, .int .i64 (R 3).1.1, .int .u64 (R 3).1.2, .int .i64 (R 4).1.1, .int .u64 (R 4).1.2, .int .i64 (R 5).1.1, .int .u64 (R 5).1.2] 143))
   generalize w2.alloc (.cells #[.int .i64 (R 0).1.1, .int .u64 (R 0).1.2, .int .i64 (R 1).1.1, .int .u64 (R 1).1.2, .int .i64 (R 2).1.1, .int .u64 (R 2).1.2, .int .i64 (R 3).1.1, .int .u64 (R 3).1.2, .int .i64 (R 4).1.1, .int .u64 (R 4).1.2, .int .i64 (R 5).1.1, .int .u64 (R 5).1.2] 143) = w3 at H2 H3 H4 H6 HB ⊢
   generalize w2.heap.size = b6 at H6 g6 ⊢
   have y30 := bcv H3.out 0 (.int .i64 a0) rfl
   have y31 := bcv H3.out 1 (.int .i64 a1) rfl
   have y32 := bcv H3.out 2 (.int .i64 a2) rfl
   go_wp2_with fail
   refine (HV.out w3 (HG.out.below HB.out)).mono ?_
   rintro e w4 ⟨rfl, hb⟩
   clear y30 y31 y32
   replace H2 := am (blk_below H2.out hb)
   replace H3 := am (blk_below H3.out hb)
   replace H4 := am (blk_below H4.out hb)
   replace H6 := am (blk_below H6.out hb)
   replace HB := am (below_step HB.out hb)
   clear hb
   have y40 := bcv H4.out 0 (.int .i64 0) rfl
   have f40 := bfz H4.out 0
   have y41 := bcv H4.out 1 (.int .i64 0) rfl
   have f41 := bfz H4.out 1
   have y42 := bcv H4.out 2 (.int .i64 0) rfl
   have f42 := bfz H4.out 2
   have y43 := bcv H4.out 3 (.int .i64 0) rfl
   have f43 := bfz H4.out 3
   have y44 := bcv H4.out 4 (.int .i64 0) rfl
   have f44 := bfz H4.out 4
   have y45 := bcv H4.out 5 (.int .i64 0) rfl
   have f45 := bfz H4.out 5
   go_wp2_with fail
   obtain ⟨q, qb⟩ := six_set rfl H4.out g4 HB.out (.int .i64 0) (.int .i64 0) (.int .i64 0) (.int .i64 0) (.int .i64 0) (.int .i64 0)
   exact bodyPost_ret (results_ct rfl _ _ b4 46 _ (0, 0) _ rfl q Tryz.underlying46 rfl (by kernel_rfl)) rfl ⟨rfl, qb⟩
  | true =>
   obtain ⟨r0, r1, r2, r3, r4, r5, er, hyes, hno⟩ : ∃ r0 r1 r2 r3 r4 r5 er, ((∀ q : Nat, q < 6 → E q = 0 ∧ fits (X q) = true) → n0 = r0 ∧ n1 = r1 ∧ n2 = r2 ∧ n3 = r3 ∧ n4 = r4 ∧ n5 = r5 ∧ e2 = er) ∧ (¬ (∀ q : Nat, q < 6 → E q = 0 ∧ fits (X q) = true) → r0 = 0 ∧ r1 = 0 ∧ r2 = 0 ∧ r3 = 0 ∧ r4 = 0 ∧ r5 = 0 ∧ er = 3) := by
    by_cases h : (∀ q : Nat, q < 6 → E q = 0 ∧ fits (X q) = true)
    ·
     exact ⟨n0, n1, n2, n3, n4, n5, e2, fun _ => ⟨rfl, rfl, rfl, rfl, rfl, rfl, rfl⟩, fun hn => absurd h hn⟩
    ·
     exact ⟨0, 0, 0, 0, 0, 0, 3, fun hy => absurd hy h, fun _ => ⟨rfl, rfl, rfl, rfl, rfl, rfl, rfl⟩⟩
   have HYES := am hyes
   have HNO := am hno
   clear hyes hno
   refine ⟨r0, r1, r2, r3, r4, r5, er, fun w hG => ?_⟩
   have HG := am hG
   clear hG
   go_enter Tryz.func68, Tryz.ntmps68
   go_upto_region 1 with fail
   obtain ⟨x2', x3', x4', hB⟩ := blocks3 w #[.int .i64 m0, .int .i64 m1, .int .i64 m2, .int .i64 m3, .int .i64 m4, .int .i64 m5] #[.int .i64 a0, .int .i64 a1, .int .i64 a2] #[.int .i64 0, .int .i64 0, .int .i64 0, .int .i64 0, .int .i64 0, .int .i64 0] 46 26 46
   generalize ((w.alloc (.cells #[.int .i64 m0, .int .i64 m1, .int .i64 m2, .int .i64 m3, .int .i64 m4, .int .i64 m5] 46)).alloc (.cells #[.int .i64 a0, .int .i64 a1, .int .i64 a2] 26)).alloc (.cells #[.int .i64 0, .int .i64 0, .int .i64 0, .int .i64 0, .int .i64 0, .int .i64 0] 46) = w1 at x2' x3' x4' hB ⊢
   obtain ⟨b2, h2⟩ : ∃ b, b = w.heap.size := ⟨_, rfl⟩
   obtain ⟨b3, h3⟩ : ∃ b, b = w.heap.size + 1 := ⟨_, rfl⟩
   obtain ⟨b4, h4⟩ : ∃ b, b = w.heap.size + 1 + 1 := ⟨_, rfl⟩
   have g2 : w.heap.size ≤ b2 := by omega
   have g3 : w.heap.size ≤ b3 := by omega
   have g4 : w.heap.size ≤ b4 := by omega
   have n2_3 : b2 ≠ b3 := by omega
   have n2_4 : b2 ≠ b4 := by omega
   have n3_2 : b3 ≠ b2 := by omega
   have n3_4 : b3 ≠ b4 := by omega
   have n4_2 : b4 ≠ b2 := by omega
   have n4_3 : b4 ≠ b3 := by omega
   rw [← h4, ← h3, ← h2]
   rw [← h4] at x4'
   rw [← h3] at x3'
   rw [← h2] at x2'
   have H2 := am x2'
   have H3 := am x3'
   have H4 := am x4'
   have HB := am hB
   clear x2' x3' x4' hB h2 h3 h4
   have y20 := bcv H2.out 0 (.int .i64 m0) rfl
   have y21 := bcv H2.out 1 (.int .i64 m1) rfl
   have y22 := bcv H2.out 2 (.int .i64 m2) rfl
   have y23 := bcv H2.out 3 (.int .i64 m3) rfl
   have y24 := bcv H2.out 4 (.int .i64 m4) rfl
   have y25 := bcv H2.out 5 (.int .i64 m5) rfl
   go_wp2_with fail
   refine (HRaw.out w1 (HG.out.below HB.out)).mono ?_
   rintro e w2 ⟨rfl, hb⟩
   replace H2 := am (blk_below H2.out hb)
   replace H3 := am (blk_below H3.out hb)
   replace H4 := am (blk_below H4.out hb)
   replace HB := am (below_step HB.out hb)
   clear y20 y21 y22 y23 y24 y25
   clear hb
   go_upto_region 2 with fail
   replace H2 := am (blk_alloc H2.out (.cells #[.int .i64 (R 0).1.1, .int .u64 (R 0).1.2, .int .i64 (R 1).1.1, .int .u64 (R 1).1.2, .int .i64 (R 2).1.1, .int .u64 (R 2).1.2, .int .i64 (R 3).1.1, .int .u64 (R 3).1.2, .int .i64 (R 4).1.1, .int .u64 (R 4).1.2, .int .i64 (R 5).1.1, .int .u64 (R 5).1.2] 143))
   replace H3 := am (blk_alloc H3.out (.cells #[.int .i64 (R 0).1.1, .int .u64 (R 0).1.2, .int .i64 (R 1).1.1, .int .u64 (R 1).1.2, .int .i64 (R 2).1.1, .int .u64 (R 2).1.2, .int .i64 (R 3).1.1, .int .u64 (R 3).1.2, .int .i64 (R 4).1.1, .int .u64 (R 4).1.2, .int .i64 (R 5).1.1, .int .u64 (R 5).1.2] 143))
   replace H4 := am (blk_alloc H4.out (.cells #[.int .i64 (R 0).1.1, .int .u64 (R 0).1.2, .int .i64 (R 1).1.1, .int .u64 (R 1).1.2, .int .i64 (R 2).1.1, .int .u64 (R 2).1.2, .int .i64 (R 3).1.1, .int .u64 (R 3).1.2, .int .i64 (R 4).1.1, .int .u64 (R 4).1.2, .int .i64 (R 5).1.1, .int .u64 (R 5).1.2] 143))
   have H6 := am (blk_new w2 (.cells #[.int .i64 (R 0).1.1, .int .u64 (R 0).1.2, .int .i64 (R 1).1.1, .int .u64 (R 1).1.2, .int .i64 (R 2).1.1, .int .u64 (R 2).1.2, .int .i64 (R 3).1.1, .int .u64 (R 3).1.2, .int .i64 (R 4).1.1, .int .u64 (R 4).1.2, .int .i64 (R 5).1.1, .int .u64 (R 5).1.2] 143))
   have g6 : w.heap.size ≤ w2.heap.size := HB.out.size
   replace HB := am (below_alloc HB.out (.cells #[.int .i64 (R 0).1.1, .int .u64 (R 0).1.2, .int .i64 (R 1).1.1, .int .u64 (R 1).1.2, .int .i64 (R 2).1.1, .int .u64 (R 2).1.2, .int .i64 (R 3).1.1, .int .u64 (R 3).1.2, .int .i64 (R 4).1.1, .int .u64 (R 4).1.2, .int .i64 (R 5).1.1, .int .u64 (R 5).1.2] 143))
   generalize w2.alloc (.cells #[.int .i64 (R 0).1.1, .int .u64 (R 0).1.2, .int .i64 (R 1).1.1, .int .u64 (R 1).1.2, .int .i64 (R 2).1.1, .int .u64 (R 2).1.2, .int .i64 (R 3).1.1, .int .u64 (R 3).1.2, .int .i64 (R 4).1.1, .int .u64 (R 4).1.2, .int .i64 (R 5).1.1, .int .u64 (R 5).1.2] 143) = w3 at H2 H3 H4 H6 HB ⊢
   generalize w2.heap.size = b6 at H6 g6 ⊢
   have y30 := bcv H3.out 0 (.int .i64 a0) rfl
   have y31 := bcv H3.out 1 (.int .i64 a1) rfl
   have y32 := bcv H3.out 2 (.int .i64 a2) rfl
   go_wp2_with fail
   refine (HV.out w3 (HG.out.below HB.out)).mono ?_
   rintro e w4 ⟨rfl, hb⟩
   clear y30 y31 y32
   replace H2 := am (blk_below H2.out hb)
   replace H3 := am (blk_below H3.out hb)
   replace H4 := am (blk_below H4.out hb)
   replace H6 := am (blk_below H6.out hb)
   replace HB := am (below_step HB.out hb)
   clear hb
   go_upto_region 5 with fail
   have n2_8 : b2 ≠ w4.heap.size := Nat.ne_of_lt (blk_lt H2.out)
   have n3_8 : b3 ≠ w4.heap.size := Nat.ne_of_lt (blk_lt H3.out)
   have n4_8 : b4 ≠ w4.heap.size := Nat.ne_of_lt (blk_lt H4.out)
   replace H2 := am (blk_alloc H2.out (.cells #[.int .i64 0, .int .i64 0, .int .i64 0, .int .i64 0, .int .i64 0, .int .i64 0] 46))
   replace H3 := am (blk_alloc H3.out (.cells #[.int .i64 0, .int .i64 0, .int .i64 0, .int .i64 0, .int .i64 0, .int .i64 0] 46))
   replace H4 := am (blk_alloc H4.out (.cells #[.int .i64 0, .int .i64 0, .int .i64 0, .int .i64 0, .int .i64 0, .int .i64 0] 46))
   replace H6 := am (blk_alloc H6.out (.cells #[.int .i64 0, .int .i64 0, .int .i64 0, .int .i64 0, .int .i64 0, .int .i64 0] 46))
   have H8 := am (blk_new w4 (.cells #[.int .i64 0, .int .i64 0, .int .i64 0, .int .i64 0, .int .i64 0, .int .i64 0] 46))
   have g8 : w.heap.size ≤ w4.heap.size := HB.out.size
   replace HB := am (below_alloc HB.out (.cells #[.int .i64 0, .int .i64 0, .int .i64 0, .int .i64 0, .int .i64 0, .int .i64 0] 46))
   generalize w4.alloc (.cells #[.int .i64 0, .int .i64 0, .int .i64 0, .int .i64 0, .int .i64 0, .int .i64 0] 46) = w5 at H2 H3 H4 H6 H8 HB ⊢
   generalize w4.heap.size = b8 at H8 g8 n2_8 n3_8 n4_8 ⊢
   have y60 := bcv H6.out 0 (.int .i64 (R 0).1.1) rfl
   have y61 := bcv H6.out 1 (.int .u64 (R 0).1.2) rfl
   have y62 := bcv H6.out 2 (.int .i64 (R 1).1.1) rfl
   have y63 := bcv H6.out 3 (.int .u64 (R 1).1.2) rfl
   have y64 := bcv H6.out 4 (.int .i64 (R 2).1.1) rfl
   have y65 := bcv H6.out 5 (.int .u64 (R 2).1.2) rfl
   have y66 := bcv H6.out 6 (.int .i64 (R 3).1.1) rfl
   have y67 := bcv H6.out 7 (.int .u64 (R 3).1.2) rfl
   have y68 := bcv H6.out 8 (.int .i64 (R 4).1.1) rfl
   have y69 := bcv H6.out 9 (.int .u64 (R 4).1.2) rfl
   have y610 := bcv H6.out 10 (.int .i64 (R 5).1.1) rfl
   have y611 := bcv H6.out 11 (.int .u64 (R 5).1.2) rfl
   have n8_4 := Ne.symm n4_8
   go_wp2_with fail
   go_loopw [29] (fun i' wr => ∃ k : Int, (0 ≤ k ∧ k ≤ 6) ∧ i' = .int .i64 k ∧ Aside0 (∀ q : Nat, q < k.toNat → E q = 0 ∧ fits (X q) = true) ∧ Aside0 (wr.heap[b2]? = some (.cells #[.int .i64 m0, .int .i64 m1, .int .i64 m2, .int .i64 m3, .int .i64 m4, .int .i64 m5] 46 (0, 0))) ∧ Aside0 (wr.heap[b3]? = some (.cells #[.int .i64 a0, .int .i64 a1, .int .i64 a2] 26 (0, 0))) ∧ Aside0 (wr.heap[b4]? = some (.cells #[.int .i64 0, .int .i64 0, .int .i64 0, .int .i64 0, .int .i64 0, .int .i64 0] 46 (0, 0))) ∧ Aside0 (wr.heap[b8]? = some (.cells (rowS X k.toNat) 46 (0, 0))) ∧ Aside0 (Below w.heap.size w wr)) (fun i _ => 6 - (intOf i).toNat)
   case atStart => exact ⟨0, by omega, rfl, ⟨fun q hq => by simp at hq⟩, H2, H3, H4, ⟨H8.out⟩, HB⟩
   case round =>
    clear HB H2 H3 H4 H6 H8 y60 y61 y62 y63 y64 y65 y66 y67 y68 y69 y610 y611 g6
    obtain ⟨k, hk, rfl, HP, H2, H3, H4, H8, HB⟩ := hrel
    by_cases h6 : k < 6
    ·
     skip
     have ik := index6 R hk.1 h6
     go_upto_region 8 with fail
     replace H2 := am (blk_alloc H2.out (.cells #[.int .i64 (R k.toNat).1.1, .int .u64 (R k.toNat).1.2] 124))
     replace H3 := am (blk_alloc H3.out (.cells #[.int .i64 (R k.toNat).1.1, .int .u64 (R k.toNat).1.2] 124))
     replace H4 := am (blk_alloc H4.out (.cells #[.int .i64 (R k.toNat).1.1, .int .u64 (R k.toNat).1.2] 124))
     replace H8 := am (blk_alloc H8.out (.cells #[.int .i64 (R k.toNat).1.1, .int .u64 (R k.toNat).1.2] 124))
     have H10 := am (blk_new wr (.cells #[.int .i64 (R k.toNat).1.1, .int .u64 (R k.toNat).1.2] 124))
     have g10 : w.heap.size ≤ wr.heap.size := HB.out.size
     replace HB := am (below_alloc HB.out (.cells #[.int .i64 (R k.toNat).1.1, .int .u64 (R k.toNat).1.2] 124))
     generalize wr.alloc (.cells #[.int .i64 (R k.toNat).1.1, .int .u64 (R k.toNat).1.2] 124) = v1 at H2 H3 H4 H8 H10 HB ⊢
     generalize wr.heap.size = b10 at H10 g10 ⊢
     have y100 := bcv H10.out 0 (.int .i64 (R k.toNat).1.1) rfl
     have y101 := bcv H10.out 1 (.int .u64 (R k.toNat).1.2) rfl
     go_wp2_with fail
     refine ((HT.out k.toNat).1 v1 (HG.out.below HB.out)).mono ?_
     rintro e v2 ⟨rfl, hb⟩
     clear y100 y101 H10 g10 ik
     replace H2 := am (blk_below H2.out hb)
     replace H3 := am (blk_below H3.out hb)
     replace H4 := am (blk_below H4.out hb)
     replace H8 := am (blk_below H8.out hb)
     replace HB := am (below_step HB.out hb)
     clear hb
     go_upto_region 9 with fail
     replace H2 := am (blk_alloc H2.out (.cells #[.int .i64 (HF k.toNat).1.1, .int .u64 (HF k.toNat).1.2] 124))
     replace H3 := am (blk_alloc H3.out (.cells #[.int .i64 (HF k.toNat).1.1, .int .u64 (HF k.toNat).1.2] 124))
     replace H4 := am (blk_alloc H4.out (.cells #[.int .i64 (HF k.toNat).1.1, .int .u64 (HF k.toNat).1.2] 124))
     replace H8 := am (blk_alloc H8.out (.cells #[.int .i64 (HF k.toNat).1.1, .int .u64 (HF k.toNat).1.2] 124))
     have H11 := am (blk_new v2 (.cells #[.int .i64 (HF k.toNat).1.1, .int .u64 (HF k.toNat).1.2] 124))
     have g11 : w.heap.size ≤ v2.heap.size := HB.out.size
     replace HB := am (below_alloc HB.out (.cells #[.int .i64 (HF k.toNat).1.1, .int .u64 (HF k.toNat).1.2] 124))
     generalize v2.alloc (.cells #[.int .i64 (HF k.toNat).1.1, .int .u64 (HF k.toNat).1.2] 124) = v3 at H2 H3 H4 H8 H11 HB ⊢
     generalize v2.heap.size = b11 at H11 g11 ⊢
     have y110 := bcv H11.out 0 (.int .i64 (HF k.toNat).1.1) rfl
     have y111 := bcv H11.out 1 (.int .u64 (HF k.toNat).1.2) rfl
     go_wp2_with fail
     refine ((HT.out k.toNat).2 v3 (HG.out.below HB.out)).mono ?_
     rintro e v4 ⟨rfl, hb⟩
     clear y110 y111 H11 g11
     replace H2 := am (blk_below H2.out hb)
     replace H3 := am (blk_below H3.out hb)
     replace H4 := am (blk_below H4.out hb)
     replace H8 := am (blk_below H8.out hb)
     replace HB := am (below_step HB.out hb)
     clear hb
     by_cases he : E k.toNat = 0
     ·
      cases hf : fits (X k.toNat) with
      | false =>
       have HN : ¬ (∀ q : Nat, q < 6 → E q = 0 ∧ fits (X q) = true) := fun h => by have := (h k.toNat (by omega)).2; rw [hf] at this; cases this
       have HF1 := am hf
       clear hf HP
       obtain ⟨rfl, rfl, rfl, rfl, rfl, rfl, rfl⟩ := HNO.out HN
       clear HNO HYES HN
       go_wp2_with fail
       refine (fits_any v4 (X k.toNat)).mono ?_
       rintro e v5 ⟨rfl, rfl⟩
       rw [HF1.out]
       have y40 := bcv H4.out 0 (.int .i64 0) rfl
       have f40 := bfz H4.out 0
       have y41 := bcv H4.out 1 (.int .i64 0) rfl
       have f41 := bfz H4.out 1
       have y42 := bcv H4.out 2 (.int .i64 0) rfl
       have f42 := bfz H4.out 2
       have y43 := bcv H4.out 3 (.int .i64 0) rfl
       have f43 := bfz H4.out 3
       have y44 := bcv H4.out 4 (.int .i64 0) rfl
       have f44 := bfz H4.out 4
       have y45 := bcv H4.out 5 (.int .i64 0) rfl
       have f45 := bfz H4.out 5
       go_wp2_with fail
       obtain ⟨q, qb⟩ := six_set rfl H4.out g4 HB.out (.int .i64 0) (.int .i64 0) (.int .i64 0) (.int .i64 0) (.int .i64 0) (.int .i64 0)
       exact bodyPost_ret (results_ct rfl _ _ b4 46 _ (0, 0) _ rfl q Tryz.underlying46 rfl (by kernel_rfl)) rfl ⟨rfl, qb⟩
      | true =>
       have HF1 := am hf
       have HGood := am (show ∀ q : Nat, q < k.toNat + 1 → E q = 0 ∧ fits (X q) = true from fun q hq => by
        by_cases hq2 : q < k.toNat
        ·
         exact HP.out q hq2
        ·
         obtain rfl : q = k.toNat := by omega
         exact ⟨he, hf⟩)
       clear hf
       go_wp2_with fail
       refine (fits_any v4 (X k.toNat)).mono ?_
       rintro e v5 ⟨rfl, rfl⟩
       rw [HF1.out]
       have y8 : v5.cell? ⟨b8, k.toNat, none⟩ = some (.int .i64 0) := by
        refine (blk_cell H8.out _).trans ?_
        obtain rfl | rfl | rfl | rfl | rfl | rfl : k = 0 ∨ k = 1 ∨ k = 2 ∨ k = 3 ∨ k = 4 ∨ k = 5 := by omega
        all_goals rfl
       have f8 := bfz H8.out k.toNat
       go_wp2_with fail
       have q := blk_set H8.out k.toNat (.int .i64 (X k.toNat))
       rw [rowS_set X hk.1 h6] at q
       have qb := HB.out.setCell (p := ⟨b8, k.toNat, none⟩) g8 (.int .i64 (X k.toNat))
       have q2 := am (blk_far H2.out (p := ⟨b8, k.toNat, none⟩) n2_8 (.int .i64 (X k.toNat)))
       have q3 := am (blk_far H3.out (p := ⟨b8, k.toNat, none⟩) n3_8 (.int .i64 (X k.toNat)))
       have q4 := am (blk_far H4.out (p := ⟨b8, k.toNat, none⟩) n4_8 (.int .i64 (X k.toNat)))
       go_roundw
       case rel => exact ⟨k + 1, by omega, rfl, ⟨by rw [show (k + 1).toNat = k.toNat + 1 by omega]; exact HGood.out⟩, q2, q3, q4, ⟨by rw [show (k + 1).toNat = k.toNat + 1 by omega]; exact q⟩, ⟨qb⟩⟩
       case measure => simp [intOf]; omega
     ·
      have HN : ¬ (∀ q : Nat, q < 6 → E q = 0 ∧ fits (X q) = true) := fun h => he (h k.toNat (by omega)).1
      have q1 : (E k.toNat == 0) = false := by simp [he]
      have q2 : decide (E k.toNat = 0) = false := decide_eq_false he
      obtain ⟨rfl, rfl, rfl, rfl, rfl, rfl, rfl⟩ := HNO.out HN
      clear HNO HYES HN HP
      have y40 := bcv H4.out 0 (.int .i64 0) rfl
      have f40 := bfz H4.out 0
      have y41 := bcv H4.out 1 (.int .i64 0) rfl
      have f41 := bfz H4.out 1
      have y42 := bcv H4.out 2 (.int .i64 0) rfl
      have f42 := bfz H4.out 2
      have y43 := bcv H4.out 3 (.int .i64 0) rfl
      have f43 := bfz H4.out 3
      have y44 := bcv H4.out 4 (.int .i64 0) rfl
      have f44 := bfz H4.out 4
      have y45 := bcv H4.out 5 (.int .i64 0) rfl
      have f45 := bfz H4.out 5
      go_wp2_with fail
      obtain ⟨q, qb⟩ := six_set rfl H4.out g4 HB.out (.int .i64 0) (.int .i64 0) (.int .i64 0) (.int .i64 0) (.int .i64 0) (.int .i64 0)
      exact bodyPost_ret (results_ct rfl _ _ b4 46 _ (0, 0) _ rfl q Tryz.underlying46 rfl (by kernel_rfl)) rfl ⟨rfl, qb⟩
    ·
     skip
     have h6' : k = 6 := by omega
     subst h6'
     obtain ⟨rfl, rfl, rfl, rfl, rfl, rfl, rfl⟩ := HYES.out (fun q hq => HP.out q hq)
     replace H8 := am (show wr.heap[b8]? = some (.cells #[.int .i64 (X 0), .int .i64 (X 1), .int .i64 (X 2), .int .i64 (X 3), .int .i64 (X 4), .int .i64 (X 5)] 46 (0, 0)) from H8.out)
     clear HP hk h6 HYES HNO
     go_upto_region 14 with fail
     refine start_ (n := 8) (S := fun w' => w'.heap[b8]? = some (.cells #[.int .i64 (X 0), .int .i64 (X 1), .int .i64 (X 2), .int .i64 (X 3), .int .i64 (X 4), .int .i64 (X 5)] 46 (0, 0)) ∧ w'.heap[b3]? = some (.cells #[.int .i64 a0, .int .i64 a1, .int .i64 a2] 26 (0, 0))) (ds := []) (flg 8 0) (by kernel_rfl) rfl rfl ⟨H8.out, H3.out⟩ (fun hHeld => ?_)
     replace H2 := am (blk_drew H2.out)
     replace H3 := am (blk_drew H3.out)
     replace H4 := am (blk_drew H4.out)
     replace H8 := am (blk_drew H8.out)
     replace HB := am (below_drew HB.out)
     generalize wr.drew = x1 at H2 H3 H4 H8 HB hHeld ⊢
     refine take_ (i := 0) (N := (some 55)) (v := ?_) (a' := ?_) (flg 8 1) rfl rfl (by kernel_rfl) (fun _ _ _ h => h) (Or.inl ⟨by rfl, ?_⟩) hHeld ?_ ?_
     rotate_left
     ·
      rintro w' ⟨s0, s1⟩
      have x0 := bcv s0 0 (.int .i64 (X 0)) rfl
      have x1 := bcv s0 1 (.int .i64 (X 1)) rfl
      have x2 := bcv s0 2 (.int .i64 (X 2)) rfl
      have x3 := bcv s0 3 (.int .i64 (X 3)) rfl
      have x4 := bcv s0 4 (.int .i64 (X 4)) rfl
      have x5 := bcv s0 5 (.int .i64 (X 5)) rfl
      go_simp
      with_reducible rfl
     rotate_left
     ·
      simp only [pw]
      rfl
     refine take_ (i := 1) (N := (some 56)) (v := ?_) (a' := ?_) (flg 8 3) rfl rfl (by kernel_rfl) (fun _ _ _ h => h) (Or.inl ⟨by rfl, ?_⟩) hHeld ?_ ?_
     rotate_left
     ·
      rintro w' ⟨s0, s1⟩
      have x0 := bcv s1 0 (.int .i64 a0) rfl
      have x1 := bcv s1 1 (.int .i64 a1) rfl
      have x2 := bcv s1 2 (.int .i64 a2) rfl
      go_simp
      with_reducible rfl
     rotate_left
     ·
      simp only [pw]
      rfl
     refine one_ (i := 2) (N := (some 57)) (flg 8 7) rfl rfl (by kernel_rfl) (by decide) (fun K hK => ?_)
     refine goes_ Tryz.func15 (by kernel_rfl) rfl #[.agg #[.int .i64 a0, .int .i64 a1, .int .i64 a2]] (by rfl) rfl rfl (by (try simp only [List.map_toArray, List.map_cons, List.map_nil]); first | done | rfl) ?_
     refine (diag_any x1 a0 a1 a2).mono ?_
     rintro e x2 ⟨rfl, hb⟩
     replace H2 := am (blk_below H2.out hb)
     replace H3 := am (blk_below H3.out hb)
     replace H4 := am (blk_below H4.out hb)
     replace H8 := am (blk_below H8.out hb)
     replace HB := am (below_step HB.out hb)
     clear hb hHeld
     refine ⟨_, rfl, ?_⟩
     refine hK.out _ _ ⟨H8.out, H3.out⟩ (fun hHeld => ?_)
     clear hK K
     refine norm_ (a' := ?_) ?_ ?_
     rotate_left
     ·
      show Act.put _ (some 57) _ = _
      simp only [pw]
      rfl
     refine one_ (i := 3) (N := (some 58)) (flg 8 15) rfl rfl (by kernel_rfl) (by decide) (fun K hK => ?_)
     refine goes_ Tryz.func100 (by kernel_rfl) rfl #[.agg #[.int .i64 (X 0), .int .i64 (X 1), .int .i64 (X 2), .int .i64 (X 3), .int .i64 (X 4), .int .i64 (X 5)], .agg #[.int .i64 a0, .int .i64 0, .int .i64 0, .int .i64 a1, .int .i64 0, .int .i64 a2]] (by rfl) rfl rfl (by (try simp only [List.map_toArray, List.map_cons, List.map_nil]); first | done | rfl) ?_
     refine (HS.out x2 (HG.out.below HB.out)).mono ?_
     rintro e x3 ⟨rfl, hb⟩
     replace H2 := am (blk_below H2.out hb)
     replace H3 := am (blk_below H3.out hb)
     replace H4 := am (blk_below H4.out hb)
     replace H8 := am (blk_below H8.out hb)
     replace HB := am (below_step HB.out hb)
     clear hb hHeld
     refine ⟨_, rfl, ?_⟩
     refine hK.out _ _ ⟨H8.out, H3.out⟩ (fun hHeld => ?_)
     clear hK K
     refine norm_ (a' := ?_) ?_ ?_
     rotate_left
     ·
      show Act.put _ (some 58) _ = _
      simp only [pw]
      rfl
     refine pure_ (i := 4) (N := (some 59)) (v := ?_) (a' := ?_) (flg 8 31) rfl rfl (by kernel_rfl) (fun _ _ _ h => h) (Or.inl ⟨by rfl, ?_⟩) ?_ ?_
     rotate_left
     ·
      intro w'
      go_simp
      with_reducible rfl
     rotate_left
     ·
      simp only [pw]
      rfl
     refine pure_ (i := 5) (N := (some 60)) (v := ?_) (a' := ?_) (flg 8 63) rfl rfl (by kernel_rfl) (fun _ _ _ h => h) (Or.inl ⟨by rfl, ?_⟩) ?_ ?_
     rotate_left
     ·
      intro w'
      go_simp
      with_reducible rfl
     rotate_left
     ·
      simp only [pw]
      rfl
     have y40 := bcv H4.out 0 (.int .i64 0) rfl
     have f40 := bfz H4.out 0
     have y41 := bcv H4.out 1 (.int .i64 0) rfl
     have f41 := bfz H4.out 1
     have y42 := bcv H4.out 2 (.int .i64 0) rfl
     have f42 := bfz H4.out 2
     have y43 := bcv H4.out 3 (.int .i64 0) rfl
     have f43 := bfz H4.out 3
     have y44 := bcv H4.out 4 (.int .i64 0) rfl
     have f44 := bfz H4.out 4
     have y45 := bcv H4.out 5 (.int .i64 0) rfl
     have f45 := bfz H4.out 5
     refine one_ (i := 6) (N := none) (flg 8 127) rfl rfl (by kernel_rfl) (by decide) (fun K hK => ?_)
     refine skip_ (w1 := (((((x3.setCell ⟨b4, 0, none⟩ (.int .i64 n0)).setCell ⟨b4, 1, none⟩ (.int .i64 n1)).setCell ⟨b4, 2, none⟩ (.int .i64 n2)).setCell ⟨b4, 3, none⟩ (.int .i64 n3)).setCell ⟨b4, 4, none⟩ (.int .i64 n4)).setCell ⟨b4, 5, none⟩ (.int .i64 n5)) (by rfl) rfl (by first | (go_simp; done) | (go_simp; rfl)) ?_
     obtain ⟨q, qb⟩ := six_set rfl H4.out g4 HB.out (.int .i64 n0) (.int .i64 n1) (.int .i64 n2) (.int .i64 n3) (.int .i64 n4) (.int .i64 n5)
     have qo0 := (blk_far (blk_far (blk_far (blk_far (blk_far (blk_far H2.out (p := ⟨b4, 0, none⟩) n2_4 (.int .i64 n0)) (p := ⟨b4, 1, none⟩) n2_4 (.int .i64 n1)) (p := ⟨b4, 2, none⟩) n2_4 (.int .i64 n2)) (p := ⟨b4, 3, none⟩) n2_4 (.int .i64 n3)) (p := ⟨b4, 4, none⟩) n2_4 (.int .i64 n4)) (p := ⟨b4, 5, none⟩) n2_4 (.int .i64 n5))
     have qo1 := (blk_far (blk_far (blk_far (blk_far (blk_far (blk_far H3.out (p := ⟨b4, 0, none⟩) n3_4 (.int .i64 n0)) (p := ⟨b4, 1, none⟩) n3_4 (.int .i64 n1)) (p := ⟨b4, 2, none⟩) n3_4 (.int .i64 n2)) (p := ⟨b4, 3, none⟩) n3_4 (.int .i64 n3)) (p := ⟨b4, 4, none⟩) n3_4 (.int .i64 n4)) (p := ⟨b4, 5, none⟩) n3_4 (.int .i64 n5))
     have qo2 := (blk_far (blk_far (blk_far (blk_far (blk_far (blk_far H8.out (p := ⟨b4, 0, none⟩) n8_4 (.int .i64 n0)) (p := ⟨b4, 1, none⟩) n8_4 (.int .i64 n1)) (p := ⟨b4, 2, none⟩) n8_4 (.int .i64 n2)) (p := ⟨b4, 3, none⟩) n8_4 (.int .i64 n3)) (p := ⟨b4, 4, none⟩) n8_4 (.int .i64 n4)) (p := ⟨b4, 5, none⟩) n8_4 (.int .i64 n5))
     clear hHeld y40 f40 y41 f41 y42 f42 y43 f43 y44 f44 y45 f45 H4 HB H2 H3 H8
     generalize (((((x3.setCell ⟨b4, 0, none⟩ (.int .i64 n0)).setCell ⟨b4, 1, none⟩ (.int .i64 n1)).setCell ⟨b4, 2, none⟩ (.int .i64 n2)).setCell ⟨b4, 3, none⟩ (.int .i64 n3)).setCell ⟨b4, 4, none⟩ (.int .i64 n4)).setCell ⟨b4, 5, none⟩ (.int .i64 n5) = x4 at q qb qo0 qo1 qo2 ⊢
     have H4 := am q
     have HB := am qb
     have H2 := am qo0
     have H3 := am qo1
     have H8 := am qo2
     clear q qb qo0 qo1 qo2
     refine hK.out _ _ ⟨H8.out, H3.out⟩ (fun hHeld => ?_)
     clear hK K
     refine pure_ (i := 7) (N := (some 5)) (v := ?_) (a' := ?_) (flg 8 255) rfl rfl (by kernel_rfl) (fun _ _ _ h => h) (Or.inl ⟨by rfl, ?_⟩) ?_ ?_
     rotate_left
     ·
      intro w'
      go_simp
      with_reducible rfl
     rotate_left
     ·
      simp only [pw]
      rfl
     refine done_ (by kernel_rfl) ?_
     go_wp2_with fail
     exact bodyPost_ret (results_ct rfl _ _ b4 46 _ (0, 0) _ rfl H4.out Tryz.underlying46 rfl (by kernel_rfl)) rfl ⟨rfl, HB.out⟩
 ·
  have q1 : (e0 == 0) = false := by simp [h0]
  have q2 : decide (e0 = 0) = false := decide_eq_false h0
  refine ⟨0, 0, 0, 0, 0, 0, 1, fun w hG => ?_⟩
  have HG := am hG
  clear hG
  go_enter Tryz.func68, Tryz.ntmps68
  go_upto_region 1 with fail
  obtain ⟨x2', x3', x4', hB⟩ := blocks3 w #[.int .i64 m0, .int .i64 m1, .int .i64 m2, .int .i64 m3, .int .i64 m4, .int .i64 m5] #[.int .i64 a0, .int .i64 a1, .int .i64 a2] #[.int .i64 0, .int .i64 0, .int .i64 0, .int .i64 0, .int .i64 0, .int .i64 0] 46 26 46
  generalize ((w.alloc (.cells #[.int .i64 m0, .int .i64 m1, .int .i64 m2, .int .i64 m3, .int .i64 m4, .int .i64 m5] 46)).alloc (.cells #[.int .i64 a0, .int .i64 a1, .int .i64 a2] 26)).alloc (.cells #[.int .i64 0, .int .i64 0, .int .i64 0, .int .i64 0, .int .i64 0, .int .i64 0] 46) = w1 at x2' x3' x4' hB ⊢
  obtain ⟨b2, h2⟩ : ∃ b, b = w.heap.size := ⟨_, rfl⟩
  obtain ⟨b3, h3⟩ : ∃ b, b = w.heap.size + 1 := ⟨_, rfl⟩
  obtain ⟨b4, h4⟩ : ∃ b, b = w.heap.size + 1 + 1 := ⟨_, rfl⟩
  have g2 : w.heap.size ≤ b2 := by omega
  have g3 : w.heap.size ≤ b3 := by omega
  have g4 : w.heap.size ≤ b4 := by omega
  have n2_3 : b2 ≠ b3 := by omega
  have n2_4 : b2 ≠ b4 := by omega
  have n3_2 : b3 ≠ b2 := by omega
  have n3_4 : b3 ≠ b4 := by omega
  have n4_2 : b4 ≠ b2 := by omega
  have n4_3 : b4 ≠ b3 := by omega
  rw [← h4, ← h3, ← h2]
  rw [← h4] at x4'
  rw [← h3] at x3'
  rw [← h2] at x2'
  have H2 := am x2'
  have H3 := am x3'
  have H4 := am x4'
  have HB := am hB
  clear x2' x3' x4' hB h2 h3 h4
  have y20 := bcv H2.out 0 (.int .i64 m0) rfl
  have y21 := bcv H2.out 1 (.int .i64 m1) rfl
  have y22 := bcv H2.out 2 (.int .i64 m2) rfl
  have y23 := bcv H2.out 3 (.int .i64 m3) rfl
  have y24 := bcv H2.out 4 (.int .i64 m4) rfl
  have y25 := bcv H2.out 5 (.int .i64 m5) rfl
  go_wp2_with fail
  refine (HRaw.out w1 (HG.out.below HB.out)).mono ?_
  rintro e w2 ⟨rfl, hb⟩
  replace H2 := am (blk_below H2.out hb)
  replace H3 := am (blk_below H3.out hb)
  replace H4 := am (blk_below H4.out hb)
  replace HB := am (below_step HB.out hb)
  clear y20 y21 y22 y23 y24 y25
  clear hb
  go_upto_region 2 with fail
  replace H2 := am (blk_alloc H2.out (.cells #[.int .i64 (R 0).1.1, .int .u64 (R 0).1.2, .int .i64 (R 1).1.1, .int .u64 (R 1).1.2, .int .i64 (R 2).1.1, .int .u64 (R 2).1.2, .int .i64 (R 3).1.1, .int .u64 (R 3).1.2, .int .i64 (R 4).1.1, .int .u64 (R 4).1.2, .int .i64 (R 5).1.1, .int .u64 (R 5).1.2] 143))
  replace H3 := am (blk_alloc H3.out (.cells #[.int .i64 (R 0).1.1, .int .u64 (R 0).1.2, .int .i64 (R 1).1.1, .int .u64 (R 1).1.2, .int .i64 (R 2).1.1, .int .u64 (R 2).1.2, .int .i64 (R 3).1.1, .int .u64 (R 3).1.2, .int .i64 (R 4).1.1, .int .u64 (R 4).1.2, .int .i64 (R 5).1.1, .int .u64 (R 5).1.2] 143))
  replace H4 := am (blk_alloc H4.out (.cells #[.int .i64 (R 0).1.1, .int .u64 (R 0).1.2, .int .i64 (R 1).1.1, .int .u64 (R 1).1.2, .int .i64 (R 2).1.1, .int .u64 (R 2).1.2, .int .i64 (R 3).1.1, .int .u64 (R 3).1.2, .int .i64 (R 4).1.1, .int .u64 (R 4).1.2, .int .i64 (R 5).1.1, .int .u64 (R 5).1.2] 143))
  have H6 := am (blk_new w2 (.cells #[.int .i64 (R 0).1.1, .int .u64 (R 0).1.2, .int .i64 (R 1).1.1, .int .u64 (R 1).1.2, .int .i64 (R 2).1.1, .int .u64 (R 2).1.2, .int .i64 (R 3).1.1, .int .u64 (R 3).1.2, .int .i64 (R 4).1.1, .int .u64 (R 4).1.2, .int .i64 (R 5).1.1, .int .u64 (R 5).1.2] 143))
  have g6 : w.heap.size ≤ w2.heap.size := HB.out.size
  replace HB := am (below_alloc HB.out (.cells #[.int .i64 (R 0).1.1, .int .u64 (R 0).1.2, .int .i64 (R 1).1.1, .int .u64 (R 1).1.2, .int .i64 (R 2).1.1, .int .u64 (R 2).1.2, .int .i64 (R 3).1.1, .int .u64 (R 3).1.2, .int .i64 (R 4).1.1, .int .u64 (R 4).1.2, .int .i64 (R 5).1.1, .int .u64 (R 5).1.2] 143))
  generalize w2.alloc (.cells #[.int .i64 (R 0).1.1, .int .u64 (R 0).1.2, .int .i64 (R 1).1.1, .int .u64 (R 1).1.2, .int .i64 (R 2).1.1, .int .u64 (R 2).1.2, .int .i64 (R 3).1.1, .int .u64 (R 3).1.2, .int .i64 (R 4).1.1, .int .u64 (R 4).1.2, .int .i64 (R 5).1.1, .int .u64 (R 5).1.2] 143) = w3 at H2 H3 H4 H6 HB ⊢
  generalize w2.heap.size = b6 at H6 g6 ⊢
  have y40 := bcv H4.out 0 (.int .i64 0) rfl
  have f40 := bfz H4.out 0
  have y41 := bcv H4.out 1 (.int .i64 0) rfl
  have f41 := bfz H4.out 1
  have y42 := bcv H4.out 2 (.int .i64 0) rfl
  have f42 := bfz H4.out 2
  have y43 := bcv H4.out 3 (.int .i64 0) rfl
  have f43 := bfz H4.out 3
  have y44 := bcv H4.out 4 (.int .i64 0) rfl
  have f44 := bfz H4.out 4
  have y45 := bcv H4.out 5 (.int .i64 0) rfl
  have f45 := bfz H4.out 5
  go_wp2_with fail
  obtain ⟨q, qb⟩ := six_set rfl H4.out g4 HB.out (.int .i64 0) (.int .i64 0) (.int .i64 0) (.int .i64 0) (.int .i64 0) (.int .i64 0)
  exact bodyPost_ret (results_ct rfl _ _ b4 46 _ (0, 0) _ rfl q Tryz.underlying46 rfl (by kernel_rfl)) rfl ⟨rfl, qb⟩
end Go.Proofs.YtpdahkgandaabaaGreatDoor.Ch
