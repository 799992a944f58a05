/- A part of the proof of the law TopNone of the top, where the package's tables hold what their initialisers lay. -/
import Derived.Lib.SmallJoins
import Derived.Test.YtpdahkgandaabaaGreatDoorS01
import Derived.Test.YtpdahkgandaabaaGreatDoorS24
namespace Go.Proofs.YtpdahkgandaabaaGreatDoor.Ch
open Go.RowKit Go.Proofs.YtpdahkgandaabaaGreatDoorW.PrintWords Go.Proofs.YtpdahkgandaabaaGreatDoorW.PrintLast Go.Proofs.YtpdahkgandaabaaGreatDoorW.PrintMore Go.Proofs.YtpdahkgandaabaaGreatDoor.PTopNames Go.Proofs.YtpdahkgandaabaaGreatDoor.Al
set_option linter.unusedVariables false
set_option linter.unusedSimpArgs false
set_option maxRecDepth 100000 in
set_option maxHeartbeats 4000000 in
theorem valid_c (m si : Int) (w : World) : Calls Tryz.prog 29 #[.agg #[.int .i64 m, .int .i64 si]] w fun e w' => e = .returned (.bool (validB m)) ∧ Below w.heap.size w w' := by
 unfold validB
 have hx := blk_new w (.cells #[.int .i64 m, .int .i64 si] 54)
 have HB := am (below_alloc (Below.refl w.heap.size w) (.cells #[.int .i64 m, .int .i64 si] 54))
 go_enter Tryz.func29, Tryz.ntmps29
 go_upto_region 1 with fail
 generalize w.alloc (.cells #[.int .i64 m, .int .i64 si] 54) = w1 at hx HB ⊢
 generalize w.heap.size = b at hx ⊢
 have y0 := bcv hx 0 (.int .i64 m) rfl
 clear hx
 by_cases h1 : m = 1
 ·
  subst h1
  go_wp2_with fail
  go_ret
  exact ⟨rfl, HB.out⟩
 ·
  have q1 : (m == 1) = false := by simp [h1]
  have q2 : decide (m = 1) = false := decide_eq_false h1
  go_wp2_with fail
  go_ret
  exact ⟨by simp [h1], HB.out⟩
set_option maxRecDepth 100000 in
set_option maxHeartbeats 4000000 in
theorem seeks_c (m si : Int) (w : World) : Calls Tryz.prog 24 #[.agg #[.int .i64 m, .int .i64 si]] w fun e w' => e = .returned (.bool (seeksB m)) ∧ Below w.heap.size w w' := by
 unfold seeksB
 have hx := blk_new w (.cells #[.int .i64 m, .int .i64 si] 54)
 have HB := am (below_alloc (Below.refl w.heap.size w) (.cells #[.int .i64 m, .int .i64 si] 54))
 go_enter Tryz.func24, Tryz.ntmps24
 go_upto_region 1 with fail
 generalize w.alloc (.cells #[.int .i64 m, .int .i64 si] 54) = w1 at hx HB ⊢
 generalize w.heap.size = b at hx ⊢
 have y0 := bcv hx 0 (.int .i64 m) rfl
 clear hx
 by_cases h1 : m = 0
 ·
  subst h1
  go_wp2_with fail
  go_ret
  exact ⟨rfl, HB.out⟩
 ·
  have q1 : (m == 0) = false := by simp [h1]
  have q2 : decide (m = 0) = false := decide_eq_false h1
  go_wp2_with fail
  go_ret
  exact ⟨by simp [h1], HB.out⟩
theorem two54 {w0 w : World} {b : Nat} {C : Array Value} (hC : C.size = 2) (hX : w.heap[b]? = some (.cells C 54 (0, 0))) (g : w0.heap.size ≤ b) (hB : Below w0.heap.size w0 w) (x y : Value) :
  ((w.setCell ⟨b, 0, none⟩ x).setCell ⟨b, 1, none⟩ y).heap[b]? = some (.cells #[x, y] 54 (0, 0)) ∧ Below w0.heap.size w0 ((w.setCell ⟨b, 0, none⟩ x).setCell ⟨b, 1, none⟩ y) := by
 obtain ⟨c0, c1, rfl⟩ : ∃ c0 c1, C = #[c0, c1] := Go.Joins.array2 hC
 exact ⟨blk_set (blk_set hX 0 x) 1 y, (hB.setCell (p := ⟨b, 0, none⟩) g x).setCell (p := ⟨b, 1, none⟩) g y⟩
set_option maxRecDepth 100000 in
set_option maxHeartbeats 4000000 in
theorem missed_c (m si co ou n : Int) (hn : wrap64 (si + 1) = n) (w : World) : Calls Tryz.prog 77 #[.agg #[.int .i64 m, .int .i64 si], .int .i64 co, .int .i64 ou] w fun e w' => e = .returned (.agg #[.int .i64 (if ou < n then 3 else if co ≤ n then 2 else 1), .int .i64 (if ou < n then 0 else n)]) ∧ Below w.heap.size w w' := by
 obtain ⟨r, hr⟩ : ∃ r : Int, r = (if ou < n then 3 else if co ≤ n then 2 else 1) := ⟨_, rfl⟩
 obtain ⟨u, hu⟩ : ∃ u : Int, u = (if ou < n then 0 else n) := ⟨_, rfl⟩
 rw [← hr, ← hu]
 have HR := am hr
 have HU := am hu
 have HN := am hn
 clear hr hu hn
 obtain ⟨x3, x6, hB⟩ := blocks2 w #[.int .i64 m, .int .i64 si] #[.int .i64 0, .int .i64 0] 54 54
 go_enter Tryz.func77, Tryz.ntmps77
 go_upto_region 1 with fail
 generalize (w.alloc (.cells #[.int .i64 m, .int .i64 si] 54)).alloc (.cells #[.int .i64 0, .int .i64 0] 54) = w1 at x3 x6 hB ⊢
 obtain ⟨b3, h3⟩ : ∃ b, b = w.heap.size := ⟨_, rfl⟩
 obtain ⟨b6, h6⟩ : ∃ b, b = w.heap.size + 1 := ⟨_, rfl⟩
 have g3 : w.heap.size ≤ b3 := by omega
 have g6 : w.heap.size ≤ b6 := by omega
 have n36 : b3 ≠ b6 := by omega
 have n63 : b6 ≠ b3 := by omega
 rw [← h6, ← h3]
 rw [← h6] at x6
 rw [← h3] at x3
 clear h3 h6
 have y1 := bcv x3 1 (.int .i64 si) rfl
 have f1 := bfz x3 1
 go_upto_region 2 with fail
 rw [HN.out]
 have q3 := (blk_set x3 1 (.int .i64 n)).trans (show _ = some (Obj.cells #[.int .i64 m, .int .i64 n] 54 (0, 0)) from rfl)
 have q6 := blk_far x6 (p := ⟨b3, 1, none⟩) n63 (.int .i64 n)
 have qB := hB.setCell (p := ⟨b3, 1, none⟩) g3 (.int .i64 n)
 clear x3 x6 hB y1 f1
 generalize w1.setCell ⟨b3, 1, none⟩ (.int .i64 n) = w2 at q3 q6 qB ⊢
 have H3 := am q3
 have H6 := am q6
 have HB := am qB
 clear q3 q6 qB
 have y0 := bcv H3.out 0 (.int .i64 m) rfl
 have f0 := bfz H3.out 0
 have y1 := bcv H3.out 1 (.int .i64 n) rfl
 have z0 := bcv H6.out 0 (.int .i64 0) rfl
 have e0 := bfz H6.out 0
 have z1 := bcv H6.out 1 (.int .i64 0) rfl
 have e1 := bfz H6.out 1
 by_cases h1 : ou < n
 ·
  have p1 : decide (ou < n) = true := decide_eq_true h1
  go_wp2_with fail
  obtain ⟨q, qb⟩ := two54 rfl H6.out g6 HB.out (.int .i64 3) (.int .i64 0)
  exact bodyPost_ret (results_cell_row rfl _ _ b6 54 _ (0, 0) _ rfl q Tryz.underlying54 rfl (by kernel_rfl)) rfl ⟨by rw [HR.out, HU.out]; simp only [if_pos (show ou < n by omega)], qb⟩
 ·
  have p1 : decide (ou < n) = false := decide_eq_false h1
  by_cases h2 : co ≤ n
  ·
   have p2 : decide (co ≤ n) = true := decide_eq_true h2
   go_upto_region 8 with fail
   clear y0 f0 y1
   have q3 := (blk_set H3.out 0 (.int .i64 2)).trans (show _ = some (Obj.cells #[.int .i64 2, .int .i64 n] 54 (0, 0)) from rfl)
   have q6 := blk_far H6.out (p := ⟨b3, 0, none⟩) n63 (.int .i64 2)
   have qB := HB.out.setCell (p := ⟨b3, 0, none⟩) g3 (.int .i64 2)
   clear z0 z1 e0 e1
   generalize w2.setCell ⟨b3, 0, none⟩ (.int .i64 2) = w3 at q3 q6 qB ⊢
   have y0 := bcv q3 0 (.int .i64 2) rfl
   have y1 := bcv q3 1 (.int .i64 n) rfl
   have z0 := bcv q6 0 (.int .i64 0) rfl
   have e0 := bfz q6 0
   have z1 := bcv q6 1 (.int .i64 0) rfl
   have e1 := bfz q6 1
   go_wp2_with fail
   obtain ⟨q, qb⟩ := two54 rfl q6 g6 qB (.int .i64 2) (.int .i64 n)
   exact bodyPost_ret (results_cell_row rfl _ _ b6 54 _ (0, 0) _ rfl q Tryz.underlying54 rfl (by kernel_rfl)) rfl ⟨by rw [HR.out, HU.out]; simp only [if_neg (show ¬ ou < n by omega), if_pos (show co ≤ n by omega)], qb⟩
  ·
   have p2 : decide (co ≤ n) = false := decide_eq_false h2
   go_upto_region 8 with fail
   clear y0 f0 y1
   have q3 := (blk_set H3.out 0 (.int .i64 1)).trans (show _ = some (Obj.cells #[.int .i64 1, .int .i64 n] 54 (0, 0)) from rfl)
   have q6 := blk_far H6.out (p := ⟨b3, 0, none⟩) n63 (.int .i64 1)
   have qB := HB.out.setCell (p := ⟨b3, 0, none⟩) g3 (.int .i64 1)
   clear z0 z1 e0 e1
   generalize w2.setCell ⟨b3, 0, none⟩ (.int .i64 1) = w3 at q3 q6 qB ⊢
   have y0 := bcv q3 0 (.int .i64 1) rfl
   have y1 := bcv q3 1 (.int .i64 n) rfl
   have z0 := bcv q6 0 (.int .i64 0) rfl
   have e0 := bfz q6 0
   have z1 := bcv q6 1 (.int .i64 0) rfl
   have e1 := bfz q6 1
   go_wp2_with fail
   obtain ⟨q, qb⟩ := two54 rfl q6 g6 qB (.int .i64 1) (.int .i64 n)
   exact bodyPost_ret (results_cell_row rfl _ _ b6 54 _ (0, 0) _ rfl q Tryz.underlying54 rfl (by kernel_rfl)) rfl ⟨by rw [HR.out, HU.out]; simp only [if_neg (show ¬ ou < n by omega), if_neg (show ¬ co ≤ n by omega)], qb⟩
set_option maxRecDepth 100000 in
set_option maxHeartbeats 4000000 in
theorem on_c (m si ev co ou m2 s2 : Int) (w : World) (h : mode_Clock_On.f 5 m si ev co ou = some (m2, s2)) : Calls Tryz.prog 28 #[.agg #[.int .i64 m, .int .i64 si], .int .i64 ev, .int .i64 co, .int .i64 ou] w fun e w' => e = .returned (.agg #[.int .i64 m2, .int .i64 s2]) ∧ Below w.heap.size w w' := by
 have hms := fun w => missed_c m si co ou _ rfl w
 have hmf : mode_Clock_missed.f m si co ou = some ((if ou < wrap64 (si + 1) then 3 else if co ≤ wrap64 (si + 1) then 2 else 1), (if ou < wrap64 (si + 1) then 0 else wrap64 (si + 1))) := by
  unfold mode_Clock_missed.f
  split
  ·
   rfl
  ·
   split <;> rfl
 generalize (if ou < wrap64 (si + 1) then (3 : Int) else if co ≤ wrap64 (si + 1) then 2 else 1) = r at hms hmf
 generalize (if ou < wrap64 (si + 1) then 0 else wrap64 (si + 1)) = u at hms hmf
 have hva := fun w => valid_c m si w
 have hse := fun w => seeks_c m si w
 simp only [mode_Clock_On.f, mode_Clock_On.j0, mode_Clock_On.j1, mode_Clock_On.j2, mode_Clock_On.j3, valid_f, seeks_f, hmf, Option.bind_some] at h
 generalize validB m = v at hva h
 generalize seeksB m = k at hse h
 have HV := am hva
 have HS := am hse
 have HM := am hms
 clear hva hse hms hmf
 have hev : (ev = 3 ∨ ev = 0 ∨ ev = 1 ∨ ev = 2) ∨ (ev ≠ 3 ∧ ev ≠ 0 ∧ ev ≠ 1 ∧ ev ≠ 2) := by omega
 obtain ⟨x4, x8, hB⟩ := blocks2 w #[.int .i64 m, .int .i64 si] #[.int .i64 0, .int .i64 0] 54 54
 go_enter Tryz.func28, Tryz.ntmps28
 go_upto_region 1 with fail
 generalize (w.alloc (.cells #[.int .i64 m, .int .i64 si] 54)).alloc (.cells #[.int .i64 0, .int .i64 0] 54) = w1 at x4 x8 hB ⊢
 obtain ⟨b4, h4⟩ : ∃ b, b = w.heap.size := ⟨_, rfl⟩
 obtain ⟨b8, h8⟩ : ∃ b, b = w.heap.size + 1 := ⟨_, rfl⟩
 have g4 : w.heap.size ≤ b4 := by omega
 have g8 : w.heap.size ≤ b8 := by omega
 rw [← h8, ← h4]
 rw [← h8] at x8
 rw [← h4] at x4
 clear h4 h8
 have H4 := am x4
 have H8 := am x8
 have HB := am hB
 clear x4 x8 hB
 rcases hev with (rfl | rfl | rfl | rfl) | ⟨e3, e0, e1, e2⟩
 rotate_right
 ·
  have q3 : (ev == 3) = false := by simp [e3]
  have q0 : (ev == 0) = false := by simp [e0]
  have q1 : (ev == 1) = false := by simp [e1]
  have q2 : (ev == 2) = false := by simp [e2]
  have p3 : decide (ev = 3) = false := decide_eq_false e3
  have p0 : decide (ev = 0) = false := decide_eq_false e0
  have p1 : decide (ev = 1) = false := decide_eq_false e1
  have p2 : decide (ev = 2) = false := decide_eq_false e2
  cases v <;> cases k
  all_goals
   simp [e3, e0, e1, e2] at h
   obtain ⟨rfl, rfl⟩ := h
   clear e3 e0 e1 e2
   have y0 := bcv H4.out 0 (.int .i64 m) rfl
   have y1 := bcv H4.out 1 (.int .i64 si) rfl
   have z0 := bcv H8.out 0 (.int .i64 0) rfl
   have z1 := bcv H8.out 1 (.int .i64 0) rfl
   have e0 := bfz H8.out 0
   have e1 := bfz H8.out 1
   repeat
    go_wp2_with fail
    first
     | refine (HV.out _).mono ?_
     | refine (HS.out _).mono ?_
     | refine (HM.out _).mono ?_
    rintro e w2 ⟨rfl, hb⟩
    replace H4 := am (blk_below H4.out hb)
    replace H8 := am (blk_below H8.out hb)
    replace HB := am (below_step HB.out hb)
    clear hb y0 y1 z0 z1 e0 e1
    have y0 := bcv H4.out 0 (.int .i64 m) rfl
    have y1 := bcv H4.out 1 (.int .i64 si) rfl
    have z0 := bcv H8.out 0 (.int .i64 0) rfl
    have z1 := bcv H8.out 1 (.int .i64 0) rfl
    have e0 := bfz H8.out 0
    have e1 := bfz H8.out 1
   go_wp2_with fail
   exact bodyPost_ret (results_cell_row rfl _ _ b8 54 _ (0, 0) _ rfl (two54 rfl H8.out g8 HB.out _ _).1 Tryz.underlying54 rfl (by kernel_rfl)) rfl ⟨rfl, (two54 rfl H8.out g8 HB.out _ _).2⟩
 all_goals cases v <;> cases k
 all_goals
  simp at h
  obtain ⟨rfl, rfl⟩ := h
  have y0 := bcv H4.out 0 (.int .i64 m) rfl
  have y1 := bcv H4.out 1 (.int .i64 si) rfl
  have z0 := bcv H8.out 0 (.int .i64 0) rfl
  have z1 := bcv H8.out 1 (.int .i64 0) rfl
  have e0 := bfz H8.out 0
  have e1 := bfz H8.out 1
  repeat
   go_wp2_with fail
   first
    | refine (HV.out _).mono ?_
    | refine (HS.out _).mono ?_
    | refine (HM.out _).mono ?_
   rintro e w2 ⟨rfl, hb⟩
   replace H4 := am (blk_below H4.out hb)
   replace H8 := am (blk_below H8.out hb)
   replace HB := am (below_step HB.out hb)
   clear hb y0 y1 z0 z1 e0 e1
   have y0 := bcv H4.out 0 (.int .i64 m) rfl
   have y1 := bcv H4.out 1 (.int .i64 si) rfl
   have z0 := bcv H8.out 0 (.int .i64 0) rfl
   have z1 := bcv H8.out 1 (.int .i64 0) rfl
   have e0 := bfz H8.out 0
   have e1 := bfz H8.out 1
  go_wp2_with fail
  exact bodyPost_ret (results_cell_row rfl _ _ b8 54 _ (0, 0) _ rfl (two54 rfl H8.out g8 HB.out _ _).1 Tryz.underlying54 rfl (by kernel_rfl)) rfl ⟨rfl, (two54 rfl H8.out g8 HB.out _ _).2⟩
set_option maxRecDepth 100000 in
set_option maxHeartbeats 4000000 in
theorem brings_c (a p : Int) (has sh : Bool) (cn : Int) (ok : Bool) (w : World) (h : baro_Brings.f a has p sh = some (cn, ok)) : Calls Tryz.prog 23 #[.agg #[.int .i64 a, .bool has, .int .i64 p, .bool sh]] w fun e w' => e = .returned (.tuple #[.int .i64 cn, .bool ok]) ∧ Below w.heap.size w w' := by
 rw [brings_f] at h
 have hgd := fun w => good_any w p
 generalize good p = k at h hgd
 have hkind : ∀ w, Calls Tryz.prog 63 #[.agg #[.int .i64 a, .bool has, .int .i64 p, .bool sh]] w fun e w' => e = .returned (.int .i64 (if has then (if k then 0 else 1) else 2)) ∧ Below w.heap.size w w' := by
  intro w
  have hx := blk_new w (.cells #[.int .i64 a, .bool has, .int .i64 p, .bool sh] 37)
  have HB := am (below_alloc (Below.refl w.heap.size w) (.cells #[.int .i64 a, .bool has, .int .i64 p, .bool sh] 37))
  go_enter Tryz.func63, Tryz.ntmps63
  go_upto_region 1 with fail
  generalize w.alloc (.cells #[.int .i64 a, .bool has, .int .i64 p, .bool sh] 37) = w1 at hx HB ⊢
  generalize w.heap.size = b at hx ⊢
  have y1 := bcv hx 1 (.bool has) rfl
  have y2 := bcv hx 2 (.int .i64 p) rfl
  clear hx h
  have HGD := am hgd
  clear hgd
  cases has with
  | false =>
   go_wp2_with fail
   go_ret
   exact ⟨rfl, HB.out⟩
  | true =>
   cases k
   all_goals
    go_wp2_with fail
    refine (HGD.out w1).mono ?_
    rintro e w2 ⟨rfl, hb⟩
    replace HB := am (below_step HB.out hb)
    clear hb y1 y2
    go_wp2_with fail
    go_ret
    exact ⟨rfl, HB.out⟩
 have HK := am hkind
 clear hkind hgd
 have hx := blk_new w (.cells #[.int .i64 a, .bool has, .int .i64 p, .bool sh] 37)
 have HB := am (below_alloc (Below.refl w.heap.size w) (.cells #[.int .i64 a, .bool has, .int .i64 p, .bool sh] 37))
 go_enter Tryz.func23, Tryz.ntmps23
 go_upto_region 1 with fail
 generalize w.alloc (.cells #[.int .i64 a, .bool has, .int .i64 p, .bool sh] 37) = w1 at hx HB ⊢
 generalize w.heap.size = b at hx ⊢
 have HX := am hx
 have y0 := bcv hx 0 (.int .i64 a) rfl
 have y1 := bcv hx 1 (.bool has) rfl
 have y2 := bcv hx 2 (.int .i64 p) rfl
 have y3 := bcv hx 3 (.bool sh) rfl
 clear hx
 cases has <;> cases k
 all_goals
  simp at h
  obtain ⟨rfl, rfl⟩ := h
  go_wp2_with fail
  refine (HK.out w1).mono ?_
  rintro e w2 ⟨rfl, hb⟩
  replace HB := am (below_step HB.out hb)
  replace HX := am (blk_below HX.out hb)
  clear hb y0 y1 y2 y3
  have y2 := bcv HX.out 2 (.int .i64 p) rfl
  go_wp2_with fail
  go_ret2
  exact ⟨rfl, HB.out⟩
end Go.Proofs.YtpdahkgandaabaaGreatDoor.Ch
