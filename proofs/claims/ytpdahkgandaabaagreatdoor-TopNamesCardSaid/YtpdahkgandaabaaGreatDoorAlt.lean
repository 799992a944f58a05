/- The altitude of a count by the program's table (layer 6), as the laws of layer 18 reach it: the walks of slices.IndexFunc over the table, and of Altitude. -/
import Derived.Test.YtpdahkgandaabaaGreatDoorPTopNamesx0
import Derived.Deep.Cut
import Derived.Deep.CutRange
namespace Go.Proofs.YtpdahkgandaabaaGreatDoor.Al
open Go.RowKit Go.Proofs.YtpdahkgandaabaaGreatDoorW.PrintWords Go.Proofs.YtpdahkgandaabaaGreatDoorW.PrintLast Go.Proofs.YtpdahkgandaabaaGreatDoorW.PrintMore Go.Proofs.YtpdahkgandaabaaGreatDoor.PTopNames
set_option linter.unusedVariables false
set_option linter.unusedSimpArgs false

def T : List Int := [430515, 417754, 405300, 393149, 381294, 369731, 358453, 347455, 336732, 326279, 316090, 306161, 296485, 287058, 277876, 268933, 260224, 251746, 243492, 235459, 227641, 220036, 212637, 205441, 198444, 191640, 185027, 178600, 172355, 166288, 160395, 154672, 149116, 143723, 138488, 133409, 128482, 123703, 119069, 114577, 110223, 106004, 101917, 97958, 94125, 90414, 86822]
def t (i : Nat) : Int := T.getD i 0
def good (c : Int) : Bool := decide (90528 ≤ c) && decide (c ≤ 430515)
/-- The first place whose count is below c. -/
def ix (c : Int) : Nat := T.findIdx fun x => decide (x < c)
/-- The altitude of a count between places n and n + 1. -/
def altAt (n : Nat) (c : Int) : Int := (-562949953421312 + (n : Int) * 281474976710656) + 281474976710656 * (t n - c) / (t n - t (n + 1))
def alt (c : Int) : Int := altAt (ix c - 1) c
theorem good_iff (c : Int) : good c = true ↔ 90528 ≤ c ∧ c ≤ 430515 := by simp [good]
theorem ix_facts (c : Int) (h : good c = true) : 1 ≤ ix c ∧ ix c < 47 ∧ t (ix c) < c ∧ ∀ i, i < ix c → c ≤ t i := by
  rw [good_iff] at h
  have hlt : ix c < T.length := List.findIdx_lt_length_of_exists ⟨86822, by decide, by simp; omega⟩
  have h47 : T.length = 47 := by decide
  have hat : t (ix c) < c := by
    have := List.findIdx_getElem (w := hlt)
    unfold t
    rw [List.getD_eq_getElem?_getD, List.getElem?_eq_getElem hlt]
    exact of_decide_eq_true this
  have hbe : ∀ i, i < ix c → c ≤ t i := by
    intro i hi
    have := List.not_of_lt_findIdx hi
    unfold t
    rw [List.getD_eq_getElem?_getD, List.getElem?_eq_getElem (by omega)]
    simpa using this
  refine ⟨?_, by omega, hat, hbe⟩
  rcases Nat.eq_zero_or_pos (ix c) with h0 | h0
  · rw [h0] at hat
    have : t 0 = 430515 := by decide
    omega
  · exact h0
theorem t_range : ∀ i : Fin 47, 86822 ≤ t i ∧ t i ≤ 430515 := by decide +kernel
theorem t_step : ∀ i : Fin 46, 1 ≤ t i - t (i + 1) ∧ t i - t (i + 1) ≤ 12761 := by decide +kernel
/-- A later count has the lower altitude. -/
theorem alt_anti (a b : Int) (ha : good a = true) (hb : good b = true) (h : a < b) : alt b < alt a := by
  obtain ⟨a1, a2, a3, a4⟩ := ix_facts a ha
  obtain ⟨b1, b2, b3, b4⟩ := ix_facts b hb
  unfold alt
  obtain ⟨n, hn⟩ : ∃ n, ix a = n + 1 := ⟨ix a - 1, by omega⟩
  obtain ⟨m, hm⟩ : ∃ m, ix b = m + 1 := ⟨ix b - 1, by omega⟩
  rw [hn] at a2 a3 a4
  rw [hm] at b2 b3 b4
  rw [hn, hm, Nat.add_sub_cancel, Nat.add_sub_cancel]
  have hnm : m ≤ n := by
    rcases Nat.lt_or_ge n m with hlt | hge
    · have := b4 (n + 1) (by omega)
      omega
    · exact hge
  have an := a4 n (by omega)
  have bm := b4 m (by omega)
  have sn := t_step ⟨n, by omega⟩
  have sm := t_step ⟨m, by omega⟩
  simp only at sn sm
  unfold altAt
  have pa : 0 ≤ 281474976710656 * (t n - a) / (t n - t (n + 1)) := Int.ediv_nonneg (by omega) (by omega)
  have pb : 281474976710656 * (t m - b) / (t m - t (m + 1)) < 281474976710656 := Int.ediv_lt_of_lt_mul (by omega) (Int.mul_lt_mul_of_pos_left (by omega) (by omega))
  rcases Nat.lt_or_ge m n with hlt | hge
  · omega
  · have e : n = m := by omega
    subst e
    have hs : 281474976710656 * (t n - b) / (t n - t (n + 1)) + 1 ≤ 281474976710656 * (t n - a) / (t n - t (n + 1)) := by
      rw [← Int.add_mul_ediv_right (281474976710656 * (t n - b)) 1 (show t n - t (n + 1) ≠ 0 by omega)]
      exact Int.ediv_le_ediv (by omega) (by omega)
    omega

/-- The table's cells, as a world holds them. -/
def Tab (w : World) : Prop := ∀ i : Nat, i < 47 → w.cell? ⟨0, i, none⟩ = some (.int .i64 (t i))

theorem Tab.below {w w' : World} (h : Tab w) (hb : Below w.heap.size w w') : Tab w' := fun i hi => (hb.cell (World.block_lt_of_cell? w _ (h i hi))).trans (h i hi)
/-- Block 0 is there. -/
theorem Tab.pos {w : World} (h : Tab w) : 0 < w.heap.size := World.block_lt_of_cell? w _ (h 0 (by omega))

theorem mk_func : ∀ (fn : Fn) (first cap : Array Value) (w : World), (Instr.makeFunc fn first cap).run Tryz.prog w = .ok (.func fn first cap) w := fun _ _ _ _ => rfl

set_option maxRecDepth 100000 in
set_option maxHeartbeats 4000000 in
theorem below_any (w : World) (g : Nat) (a c : Int) (hc : w.cell? ⟨g, 0, none⟩ = some (.int .i64 c)) :
    Calls Tryz.prog 93 #[.int .i64 a, .pointer (some ⟨g, 0, none⟩)] w fun e w' => e = .returned (.bool (decide (a < c))) ∧ w' = w := by
  go_enter Tryz.func93, Tryz.ntmps93
  go_wp2
  go_ret
  exact ⟨rfl, rfl⟩

set_option maxRecDepth 100000 in
set_option maxHeartbeats 4000000 in
theorem index_any (w : World) (g : Nat) (c : Int) (hT : Tab w) (hc : w.cell? ⟨g, 0, none⟩ = some (.int .i64 c)) (n : Nat) (hn : n < 47) (hltn : t n < c) (hge : ∀ i, i < n → c ≤ t i) :
    Calls Tryz.prog 92 #[.slice (some ⟨0, 0, none⟩) 47 47, .func (.func 93) #[] #[.pointer (some ⟨g, 0, none⟩)]] w fun e w' => e = .returned (.int .i64 n) ∧ Below w.heap.size w w' := by
  have HT := Aside0.mk hT
  clear hT
  go_enter Tryz.func92, Tryz.ntmps92
  go_wp2_with fail
  have HB := Aside0.mk (Below.refl w.heap.size w)
  have HC := Aside0.mk hc
  clear hc
  go_loopw [8] (fun v8 wr => ∃ k : Nat, k ≤ n ∧ v8 = .int .i64 k ∧ Aside0 (Below w.heap.size w wr)) (fun v8 _ => n + 1 - (intOf v8).toNat)
  case atStart => exact ⟨0, Nat.zero_le _, rfl, HB⟩
  case round =>
    clear HB
    obtain ⟨k, hk, rfl, HB⟩ := hrel
    have p0 : (0 : Int) ≤ (k : Int) := Int.natCast_nonneg _
    have q0 : (k : Int) < 47 := by omega
    have hx := ((HT.out.below HB.out) k (by omega))
    have hy := (HB.out.cell (World.block_lt_of_cell? w _ HC.out)).trans HC.out
    by_cases hlt : k < n
    · have hcmp : decide (t k < c) = false := decide_eq_false (Int.not_lt.2 (hge k hlt))
      go_wp2_with fail
      refine (below_any wr g _ c hy).mono ?_
      rintro e w1 ⟨rfl, rfl⟩
      rw [hcmp]
      go_wp2_with fail
      go_roundw
      case rel => exact ⟨k + 1, by omega, by go_num, HB⟩
      case measure => simp [intOf]; omega
    · have hk2 : k = n := by omega
      have hcmp : decide (t k < c) = true := decide_eq_true (by rw [hk2]; exact hltn)
      subst hk2
      go_wp2_with fail
      refine (below_any wr g _ c hy).mono ?_
      rintro e w1 ⟨rfl, rfl⟩
      rw [hcmp]
      go_wp2_with fail
      go_ret
      exact ⟨rfl, HB.out⟩

set_option maxRecDepth 100000 in
set_option maxHeartbeats 4000000 in
theorem good_any (w : World) (c : Int) : Calls Tryz.prog 91 #[.int .i64 c] w fun e w' => e = .returned (.bool (good c)) ∧ Below w.heap.size w w' := by
  unfold good
  by_cases h : 90528 ≤ c
  · have h1 : decide (90528 ≤ c) = true := decide_eq_true h
    go_enter Tryz.func91, Tryz.ntmps91
    go_wp2
    go_ret
    exact ⟨by simp [h], by repeat (first | exact Below.refl _ _ | apply below_drew)⟩
  · have h1 : decide (90528 ≤ c) = false := decide_eq_false h
    go_enter Tryz.func91, Tryz.ntmps91
    go_wp2
    go_ret
    exact ⟨by simp [h], by repeat (first | exact Below.refl _ _ | apply below_drew)⟩

theorem w64 {x : Int} (h0 : -9223372036854775808 ≤ x) (h1 : x ≤ 9223372036854775807) : wrap64 x = x := by
  unfold wrap64
  omega
theorem wz (z q : Int) (h0 : 0 ≤ z) (h1 : z < 46) (q0 : 0 ≤ q) (q1 : q < 281474976710656) :
    wrap64 (z * 281474976710656) = z * 281474976710656 ∧ wrap64 (-562949953421312 + z * 281474976710656) = -562949953421312 + z * 281474976710656 ∧ wrap64 (-562949953421312 + z * 281474976710656 + q) = -562949953421312 + z * 281474976710656 + q :=
  ⟨w64 (by omega) (by omega), w64 (by omega) (by omega), w64 (by omega) (by omega)⟩
theorem wd (a b c : Int) (h1 : b < c) (h2 : c ≤ a) (h3 : a - b ≤ 12761) : wrap64 (a - c) = a - c ∧ wrap64 (281474976710656 * (a - c)) = 281474976710656 * (a - c) ∧ wrap64 (a - b) = a - b :=
  ⟨w64 (by omega) (by omega), w64 (by omega) (by omega), w64 (by omega) (by omega)⟩
theorem qd (a b c : Int) (h1 : b < c) (h2 : c ≤ a) : 0 ≤ 281474976710656 * (a - c) / (a - b) ∧ 281474976710656 * (a - c) / (a - b) < 281474976710656 ∧ Int.tdiv (281474976710656 * (a - c)) (a - b) = 281474976710656 * (a - c) / (a - b) :=
  ⟨Int.ediv_nonneg (by omega) (by omega), Int.ediv_lt_of_lt_mul (by omega) (Int.mul_lt_mul_of_pos_left (by omega) (by omega)), Int.tdiv_eq_ediv_of_nonneg (by omega)⟩

set_option maxRecDepth 100000 in
set_option maxHeartbeats 4000000 in
theorem alt_any (w : World) (c : Int) (hT : Tab w) :
    Calls Tryz.prog 65 #[.int .i64 c] w fun e w' => e = .returned (.tuple #[.int .i64 (if good c then alt c else 0), .int .i64 (if good c then 0 else 2)]) ∧ Below w.heap.size w w' := by
  have HT := Aside0.mk hT
  have hu51 := Tryz.underlying137
  cases hg : good c with
  | false =>
    go_enter Tryz.func65, Tryz.ntmps65
    go_wp2_with fail
    refine (good_any _ c).mono ?_
    rintro e w1 ⟨rfl, hb⟩
    rw [hg]
    go_wp2_with fail
    refine bodyPost_ret (results_tmp2 rfl _ _ _) rfl ?_
    exact ⟨rfl, below_step (below_alloc (Below.refl _ _) _) hb⟩
  | true =>
    obtain ⟨i1, i2, i3, i4⟩ := ix_facts c hg
    obtain ⟨n, hn⟩ : ∃ n, ix c = n + 1 := ⟨ix c - 1, by omega⟩
    have hal : alt c = altAt n c := by unfold alt; rw [hn, Nat.add_sub_cancel]
    rw [hal]
    rw [hn] at i2 i3 i4
    clear hn hal i1
    have I3 := Aside0.mk i3
    have I4 := Aside0.mk i4
    clear i3 i4
    go_enter Tryz.func65, Tryz.ntmps65
    go_wp2_with fail
    have HX := Aside0.mk (blk_new w (.cells #[.int .i64 c] 2))
    have HB := Aside0.mk (below_alloc (Below.refl w.heap.size w) (.cells #[.int .i64 c] 2))
    obtain ⟨g, hgg⟩ : ∃ g, g = w.heap.size := ⟨_, rfl⟩
    rw [← hgg] at HX ⊢
    clear hgg
    generalize w.alloc (.cells #[.int .i64 c] 2) = w1 at HX HB ⊢
    refine (good_any w1 c).mono ?_
    rintro e w2 ⟨rfl, hb⟩
    rw [hg]
    replace HX := Aside0.mk (blk_below HX.out hb)
    replace HB := Aside0.mk (below_step HB.out hb)
    clear hb hg
    have hmk := mk_func
    have hx0 := blk_cell HX.out 0
    go_wp2_with fail
    refine (index_any w2 g c (HT.out.below HB.out) hx0 (n + 1) i2 I3.out I4.out).mono ?_
    rintro e w3 ⟨rfl, hb⟩
    replace HX := Aside0.mk (blk_below HX.out hb)
    replace HB := Aside0.mk (below_step HB.out hb)
    clear hb hmk hx0
    have hx0 := blk_cell HX.out 0
    have tn := (HT.out.below HB.out) n (by omega)
    have tm := (HT.out.below HB.out) (n + 1) i2
    have r1 := I4.out n (by omega)
    have r2 := I3.out
    have r3 := t_step ⟨n, by omega⟩
    have r4 := t_range ⟨n, by omega⟩
    have r5 := t_range ⟨n + 1, by omega⟩
    simp only at r3 r4 r5
    obtain ⟨a, ha⟩ : ∃ a, a = t n := ⟨_, rfl⟩
    obtain ⟨b, hb⟩ : ∃ b, b = t (n + 1) := ⟨_, rfl⟩
    rw [← ha] at tn r1 r3 r4
    rw [← hb] at tm r2 r3 r5
    have HA := Aside0.mk ha
    have HBB := Aside0.mk hb
    clear ha hb
    obtain ⟨z, hz⟩ : ∃ z : Int, z = (n : Int) := ⟨_, rfl⟩
    have n0 : (0 : Int) ≤ z := by omega
    have n1 : z < 46 := by omega
    have n2 : z < 47 := by omega
    have n3 : z + 1 < 47 := by omega
    have n4 : (0 : Int) ≤ z + 1 := by omega
    have n6 : z.toNat = n := by omega
    have n5 : (z + 1).toNat = n + 1 := by omega
    have v1 : wrap64 z = z := w64 (by omega) (by omega)
    have v2 : wrap64 (z + 1) = z + 1 := w64 (by omega) (by omega)
    obtain ⟨v3, v4, v5⟩ := wd a b c r2 r1 r3.2
    have z0 : ¬ (a - b = 0) := by clear v3 v4 v5; omega
    obtain ⟨q0, q1, v6⟩ := qd a b c r2 r1
    obtain ⟨q, hq⟩ : ∃ q, q = 281474976710656 * (a - c) / (a - b) := ⟨_, rfl⟩
    rw [← hq] at q0 q1 v6
    have HQ := Aside0.mk hq
    clear hq r1 r2 r3 r4 r5
    have v7 : wrap64 q = q := w64 (by clear v3 v4 v5 v6; omega) (by clear v3 v4 v5 v6; omega)
    obtain ⟨v8, v9, v10⟩ := wz z q n0 n1 q0 q1
    rw [show ((n + 1 : Nat) : Int) = (n : Int) + 1 from rfl, ← hz]
    have v11 : z + 1 - 1 = z := Int.add_sub_cancel _ _
    have HZ := Aside0.mk hz
    clear hz
    go_upto_region 4 with fail
    go_quiet (fail)
    go_wp2_with fail
    refine bodyPost_ret (results_tmp2 rfl _ _ _) rfl ?_
    have hfin : altAt n c = -562949953421312 + z * 281474976710656 + q := by unfold altAt; rw [← HA.out, ← HBB.out, ← HQ.out, ← HZ.out]
    rw [hfin]
    refine ⟨rfl, ?_⟩
    repeat (first | exact HB.out | apply pw_below_drewN | apply below_drew)
end Go.Proofs.YtpdahkgandaabaaGreatDoor.Al
