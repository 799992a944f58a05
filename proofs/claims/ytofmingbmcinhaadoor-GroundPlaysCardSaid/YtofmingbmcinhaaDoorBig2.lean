/- The document's whole numbers of any size (layer 1): the walks of its natural, Of. -/
import Derived.Test.YtofmingbmcinhaaDoorBig
namespace Go.Proofs.YtofmingbmcinhaaDoor.Bg
open Go.RowKit Go.Proofs.YtofmingbmcinhaaDoorW.PrintWords Go.Proofs.YtofmingbmcinhaaDoorW.PrintLast Go.Proofs.YtofmingbmcinhaaDoorW.PrintMore Go.Proofs.YtofmingbmcinhaaDoor.PGroundPlays
set_option linter.unusedVariables false
set_option linter.unusedSimpArgs false

theorem val_two (l : List Int) (a b : Int) : val (l ++ [a, b]) = val (l ++ [a + 65536 * b]) := by
  induction l with
  | nil => simp [val]
  | cons d r ih => rw [List.cons_append, List.cons_append, val, val, ih]

theorem lim8 (n : Nat) (h : n ≤ 1000) : (n + 1) * 8 ≤ 140737488355328 := by omega
set_option maxRecDepth 100000 in
set_option maxHeartbeats 4000000 in
theorem natural_any (w : World) (x : Int) (h0 : 0 ≤ x) (h1 : x < 18446744073709551616) :
    Calls Tryd.prog 32 #[.int .u64 x] w fun e w' => ∃ v, e = .returned v ∧ IsBig w' v x ∧ Below w.heap.size w w' := by
  go_enter Tryd.func32, Tryd.ntmps32
  go_wp2_with (first
    | ((with_reducible refine gate_dst (N := 5) rfl ?_); refine Kd.R_lit (Kd.int .u64) (w0 := w) w.heap.size 61 rfl (N := 5) rfl (xs := ([] : List Int)) (inner := []) (ok := fun _ => True) (okp := fun _ => True) ?hr (Reps.none _ _) (fun _ hk => hk) trivial (below_alloc (Below.refl _ _) _) (below_alloc (Below.refl _ _) _).size (by simp) ?_; (case hr => first | (go_simp; done) | (go_simp; rfl)); intro v5 w1 ho hb hg hat; have HO := Aside0.mk ho; have HB := Aside0.mk hb; have HX := Aside0.mk (blk_grown (blk_new w (.cells #[.bool false, .slice none 0 0] 55)) hg (by simp)); clear ho hb hg hat))
  obtain ⟨b, hb⟩ : ∃ b, b = w.heap.size := ⟨_, rfl⟩
  have hbb : w.heap.size ≤ b := by omega
  rw [← hb] at HX ⊢
  clear hb
  go_loopw [0, 3, 4] (fun v0 v3 v4 wr => ∃ (k : Nat) (y : Int) (ds : List Int), k ≤ 4 ∧ v4 = .int .i64 k ∧ v0 = .int .u64 y ∧ (0 ≤ y ∧ y < 65536 ^ (4 - k)) ∧ ds.length = k ∧ Aside0 (Dg ds) ∧ Aside0 (val (ds ++ [y]) = x) ∧
    Aside0 (Kd.R (Kd.int .u64) 61 wr w.heap.size (fun _ => True) v3 ds) ∧ Aside0 (wr.heap[b]? = some (.cells #[.bool false, .slice none 0 0] 55 (0, 0))) ∧ Aside0 (Below w.heap.size w wr)) (fun _ _ v4 _ => 4 - (intOf v4).toNat)
  case atStart => exact ⟨0, x, [], by omega, rfl, rfl, ⟨h0, by simpa using h1⟩, rfl, ⟨Dg.nil⟩, ⟨by simp [val]⟩, HO, HX, HB⟩
  case round =>
    clear HO HX HB
    obtain ⟨k, y, ds, hk, rfl, rfl, hy, hl, HD, HV, HO, HX, HB⟩ := hrel
    by_cases hlt : k < 4
    · have g0 : Int.tmod y 65536 = y % 65536 := Int.tmod_eq_emod_of_nonneg hy.1
      have g1 : Int.tdiv y 65536 = y / 65536 := Int.tdiv_eq_ediv_of_nonneg hy.1
      have g2 : IntKind.u64.wrap (y / 65536) = y / 65536 := by
        have h4 : (65536 : Int) ^ (4 - k) ≤ 18446744073709551616 := by
          have : k = 0 ∨ k = 1 ∨ k = 2 ∨ k = 3 := by omega
          rcases this with rfl | rfl | rfl | rfl <;> decide
        exact u64 (by omega) (by omega)
      have hy2 : 0 ≤ y / 65536 ∧ y / 65536 < 65536 ^ (4 - (k + 1)) := by
        have e : (65536 : Int) ^ (4 - k) = 65536 ^ (4 - (k + 1)) * 65536 := by rw [← Int.pow_succ]; congr 1; omega
        rw [e] at hy
        generalize (65536 : Int) ^ (4 - (k + 1)) = P at hy ⊢
        omega
      have HD2 := Aside0.mk (HD.out.append (Dg.one (x := y % 65536) (by omega) (by omega)))
      have HV2 := Aside0.mk (show val ((ds ++ [y % 65536]) ++ [y / 65536]) = x by
        rw [List.append_assoc, List.singleton_append, val_two, ← HV.out]
        congr 2
        simp
        omega)
      have q0 : decide ((k : Int) < 4) = true := decide_eq_true (by omega)
      have q1 : wrap64 ((k : Int) + 1) = ((k + 1 : Nat) : Int) := cast_succ k (by omega)
      have LIM := Aside0.mk (lim8 ds.length (by rw [hl]; exact Nat.le_trans hk (by decide)))
      have HY2 := Aside0.mk hy2
      have hk1 : k + 1 ≤ 4 := hlt
      have hl1 : (ds ++ [y % 65536]).length = k + 1 := by simp [hl]
      have HL1 := Aside0.mk hl1
      clear HV h0 h1 hy hy2 hl hl1
      go_wp2_with (first
        | ((with_reducible refine gate_builtin (b := .append) (xs := #[.tmp 10, .tmp 13]) rfl ?_); at_builtin; refine Kd.R_append (Kd.int .u64) (w0 := w) w.heap.size rfl (.tmp 10) (.tmp 13) 53 61 (.int .u64 0) 8 rfl Tryd.underlying53 info61 rfl (by decide) (by omega) u3 ds (y % 65536) [.int .u64 (y % 65536)] (fun _ => True) (fun _ => False) rfl rfl rfl (fun _ hk => hk.elim) (fun _ _ => trivial) HO.out HB.out HB.out.size LIM.out ?_; intro v14 w12 ho hb hg hat; have HO2 := Aside0.mk ho; have HB2 := Aside0.mk hb; have HX2 := Aside0.mk (blk_grown HX.out hg (Kd.R_ne HO.out HX.out (by decide))); clear ho hb hg hat))
      go_roundw
      case rel => exact ⟨k + 1, y / 65536, ds ++ [y % 65536], hk1, rfl, rfl, HY2.out, HL1.out, HD2, HV2, HO2, HX2, HB2⟩
      case measure => simp [intOf]; omega
    · have hk4 : k = 4 := Nat.le_antisymm hk (Nat.le_of_not_lt hlt)
      subst hk4
      have hy0 : y = 0 := by
        obtain ⟨a, b⟩ := hy
        rw [Nat.sub_self, Int.pow_zero] at b
        omega
      subst hy0
      have HV2 := Aside0.mk (show val ds = x by rw [← HV.out, val_snoc0])
      obtain ⟨A3, c3, rfl⟩ := Kd.R_slice HO.out
      have hl5 : ds.length ≤ 2000 := by rw [hl]; decide
      clear HV hy h0 h1 hl hk hlt
      go_wp2_with fail
      refine (cut_any wr false A3 c3 ds (Kd.R_reads' HO.out).2.2 (Kd.R_reads' HO.out).2.1 HD.out hl5).mono ?_
      rintro e w2 ⟨v, rfl, hv, hb⟩
      rw [if_neg (by decide), HV2.out] at hv
      replace HX := Aside0.mk (blk_below HX.out hb)
      replace HB := Aside0.mk (below_step HB.out hb)
      clear hb HO HD HV2 hl5
      obtain ⟨ng, A, n, c, rfl⟩ := hv.form
      have HV := Aside0.mk hv
      have c0 : w2.cell? ⟨b, 0, none⟩ = some (.bool false) := (blk_cell HX.out 0).trans rfl
      have c1 : w2.cell? ⟨b, 1, none⟩ = some (.slice none 0 0) := (blk_cell HX.out 1).trans rfl
      have f0 := blk_frozen HX.out 0
      have f1 := blk_frozen HX.out 1
      clear hv
      go_wp2_with fail
      obtain ⟨r0, r1, hv, hB⟩ := store_big HX.out hbb HB.out HV.out
      generalize (w2.setCell ⟨b, 0, none⟩ (.bool ng)).setCell ⟨b, 1, none⟩ (.slice A n c) = W at r0 r1 hv hB ⊢
      clear c0 c1 f0 f1
      refine ⟨rfl, .agg #[.bool ng, .slice A n c], ?_, _, rfl, hv, hB⟩
      simp [results, Tryd.results32, go_sem, r0, r1]

set_option maxRecDepth 100000 in
set_option maxHeartbeats 4000000 in
theorem of_any (w : World) (x : Int) (h0 : 0 ≤ x) (h1 : x < 9223372036854775808) :
    Calls Tryd.prog 24 #[.int .i64 x] w fun e w' => ∃ v, e = .returned v ∧ IsBig w' v x ∧ Below w.heap.size w w' := by
  have g0 : decide (x < 0) = false := decide_eq_false (by omega)
  have g1 : IntKind.u64.wrap x = x := u64 h0 (by omega)
  have H0 := Aside0.mk h0
  have H1 := Aside0.mk (show x < 18446744073709551616 by omega)
  clear h0 h1
  go_enter Tryd.func24, Tryd.ntmps24
  go_wp2_with fail
  have HX := Aside0.mk (blk_new w (.cells #[.bool false, .slice none 0 0] 55))
  have HB := Aside0.mk (below_alloc (Below.refl w.heap.size w) (.cells #[.bool false, .slice none 0 0] 55))
  obtain ⟨b, hb⟩ : ∃ b, b = w.heap.size := ⟨_, rfl⟩
  have hbb : w.heap.size ≤ b := by omega
  rw [← hb] at HX ⊢
  clear hb
  generalize w.alloc (.cells #[.bool false, .slice none 0 0] 55) = w1 at HX HB ⊢
  refine (natural_any w1 x H0.out H1.out).mono ?_
  rintro e w2 ⟨v, rfl, hv, hb⟩
  replace HX := Aside0.mk (blk_below HX.out hb)
  replace HB := Aside0.mk (below_step HB.out hb)
  clear hb
  obtain ⟨ng, A, n, c, rfl⟩ := hv.form
  have HV := Aside0.mk hv
  have c0 : w2.cell? ⟨b, 0, none⟩ = some (.bool false) := (blk_cell HX.out 0).trans rfl
  have c1 : w2.cell? ⟨b, 1, none⟩ = some (.slice none 0 0) := (blk_cell HX.out 1).trans rfl
  have f0 := blk_frozen HX.out 0
  have f1 := blk_frozen HX.out 1
  clear hv
  go_wp2_with fail
  obtain ⟨r0, r1, hv, hB⟩ := store_big HX.out hbb HB.out HV.out
  generalize (w2.setCell ⟨b, 0, none⟩ (.bool ng)).setCell ⟨b, 1, none⟩ (.slice A n c) = W at r0 r1 hv hB ⊢
  clear c0 c1 f0 f1
  refine ⟨rfl, .agg #[.bool ng, .slice A n c], ?_, _, rfl, hv, hB⟩
  simp [results, Tryd.results24, go_sem, r0, r1]
end Go.Proofs.YtofmingbmcinhaaDoor.Bg
