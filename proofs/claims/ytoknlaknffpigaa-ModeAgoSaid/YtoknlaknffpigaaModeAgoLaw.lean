/- How long ago a sample was taken: the walk of the law ModeAgo of layer 19. -/
import Derived.Test.YtoknlaknffpigaaModeRunsLaw
import Derived.Test.YtoknlaknffpigaaModeAgoPlain
namespace Go.Proofs.Ytoknlaknffpigaa.Mi
open Go.RowKit Go.Proofs.YtoknlaknffpigaaW.PrintWords Go.Proofs.YtoknlaknffpigaaW.PrintLast Go.Proofs.YtoknlaknffpigaaW.PrintMore Go.Proofs.Ytoknlaknffpigaa.Mp

set_option linter.unusedSimpArgs false
set_option linter.unusedVariables false
theorem info3 : (Try.prog.info? 3).map (fun i => (i.zero, i.size, i.bytes)) = some (some (.int .i64 0), 1, 8) := by kernel_rfl

def md (e : Int) : Int := Int.tmod (Int.tmod e 4 + 4) 4
/-- The events, of which the first k are brought to 0 .. 3. -/
def pre (l : List Int) (k : Nat) : List Int := (l.take k).map md ++ l.drop k
theorem pre_length (l : List Int) (k : Nat) (h : k ≤ l.length) : (pre l k).length = l.length := by simp [pre]; omega
theorem tm4 (x : Int) : -4 < Int.tmod x 4 ∧ Int.tmod x 4 < 4 := by
  have h := Int.tmod_lt_of_pos x (show (0 : Int) < 4 by decide)
  have h2 := Int.tmod_lt_of_pos (-x) (show (0 : Int) < 4 by decide)
  rw [Int.neg_tmod] at h2
  omega
theorem md_in (x : Int) : 0 ≤ md x ∧ md x ≤ 3 := by
  obtain ⟨h1, h2⟩ := tm4 x
  unfold md
  rw [Int.tmod_eq_emod_of_nonneg (by omega)]
  omega
theorem pre_all (l : List Int) : pre l l.length = l.map md := by simp [pre]
theorem rd_md (l : List Int) (i : Nat) (h : i < (l.map md).length) : 0 ≤ rd (l.map md) i ∧ rd (l.map md) i ≤ 3 := by
  unfold rd
  rw [Int.toNat_natCast, List.getD_eq_getElem?_getD, List.getElem?_eq_getElem h]
  simp only [List.getElem_map, Option.getD_some]
  exact md_in _
theorem pre_get (l : List Int) (k : Nat) (h : k < l.length) : (pre l k).getD k 0 = l.getD k 0 := by
  unfold pre
  simp [List.getD_eq_getElem?_getD, List.getElem?_append_right, List.length_take, Nat.min_eq_left (Nat.le_of_lt h), Nat.min_le_left]
theorem pre_set (l : List Int) (k : Nat) (h : k < l.length) : (pre l k).set k (md (l.getD k 0)) = pre l (k + 1) := by
  unfold pre
  rw [List.drop_eq_getElem_cons h, List.take_succ_eq_append_getElem h, List.set_append_right _ _ (by simp [Nat.min_le_left]), List.map_append, List.append_assoc, List.length_map, List.length_take, Nat.min_eq_left (Nat.le_of_lt h), Nat.sub_self, List.set_cons_zero, List.getD_eq_getElem?_getD, List.getElem?_eq_getElem h]
  rfl

set_option maxRecDepth 100000 in
set_option maxHeartbeats 4000000 in
theorem lawAgo_any (w : World) (A : Option Addr) (cap : Nat) (evs : List Int) (co ou : Int) (hr : Kd.C (Kd.int .i64) w A evs.length evs) (hco : 0 ≤ co ∧ co < 65536) (hou : 0 ≤ ou ∧ ou < 65536) :
    Calls Try.prog 10 #[.slice A evs.length cap, .int .u16 co, .int .u16 ou] w fun e w' => e = .returned (.bool true) ∧ Below w.heap.size w w' := by
  have HR := Aside0.mk hr
  have hmax : evs.length ≤ 9223372036854775807 := hr.2.1
  clear hr
  by_cases hl : 300 < evs.length
  · have h1 : decide ((300 : Int) < (evs.length : Int)) = true := decide_eq_true (by omega)
    go_enter Try.func10, Try.ntmps10
    go_wp2_with (first | (go_at_call 33; refine (fixed_any _).mono ?_; rintro e w1 ⟨rfl, hb⟩))
    go_ret
    exact ⟨rfl, hb⟩
  · have h1 : decide ((300 : Int) < (evs.length : Int)) = false := decide_eq_false (by omega)
    go_enter Try.func10, Try.ntmps10
    go_wp2_with (first
      | ((with_reducible refine gate_dst (N := 17) rfl ?_); refine Kd.R_lit (Kd.int .i64) w.heap.size 3 rfl (N := 17) rfl (xs := ([] : List Int)) (inner := []) (ok := fun _ => True) (okp := fun _ => True) ?hr (Reps.none _ _) (fun _ hk => hk) trivial (Below.refl _ _) (Nat.le_refl _) (by simp) ?_; (case hr => first | (go_simp; done) | (go_simp; rfl)); intro v17 w1 ho hb hg hat)
      | ((with_reducible refine gate_builtin (b := .append) (xs := #[.tmp 17, .tmp 18]) rfl ?_); at_builtin; refine Kd.R_append_row (Value.int .i64) (0 : Int) (w0 := w) w.heap.size rfl (.tmp 17) (.tmp 18) 61 3 (.int .i64 0) 8 rfl Try.underlying61 info3 rfl (by decide) v17 [] evs A evs.length cap (fun _ => True) rfl rfl (fun _ _ => trivial) ho ?aC hb hb.size (by simp; omega) ?_; (case aC => exact Kd.C_below HR.out hb); clear ho hb hg hat; intro v19 w2 ho hb hg hat; simp only [List.nil_append] at ho; obtain ⟨A1, c1, rfl⟩ := Kd.R_slice ho))
    have HO := Aside0.mk (show Kd.R (Kd.int .i64) 3 w2 w.heap.size (fun _ => True) (.slice A1 evs.length c1) (pre evs 0) from ho)
    have HB := Aside0.mk hb
    clear ho hb hg hat
    go_wp2_with fail
    go_loopw [22] (fun v22 wr => ∃ k : Nat, k ≤ evs.length ∧ v22 = .int .i64 k ∧ Aside0 (Kd.R (Kd.int .i64) 3 wr w.heap.size (fun _ => True) (.slice A1 evs.length c1) (pre evs k)) ∧ Aside0 (Below w.heap.size w wr)) (fun v22 _ => evs.length - (intOf v22).toNat)
    case atStart => exact ⟨0, Nat.zero_le _, rfl, HO, HB⟩
    case round =>
      clear HO HB
      obtain ⟨k, hk, rfl, HO, HB⟩ := hrel
      by_cases hlt : k < evs.length
      · have p0 : (0 : Int) ≤ (k : Int) := Int.natCast_nonneg _
        have q0 : (k : Int) < (evs.length : Int) := by omega
        obtain ⟨g, cg, e1, hbase, hgl, cells, hgb⟩ := Kd.R_form HO.out (by rw [pre_length _ _ hk]; omega)
        injection e1 with e1 e2 e3
        subst e1
        obtain ⟨hx, hf⟩ := Kd.R_celln (0 : Int) HO.out (k : Int) p0 q0
        have hput := Kd.R_putn HO.out (k : Int) (md (evs.getD k 0))
        rw [Int.toNat_natCast] at hx hf hput
        rw [pre_set _ _ hlt] at hput
        have he : rdOf (0 : Int) (pre evs k) (k : Int) = evs.getD k 0 := by rw [← pre_get evs k hlt]; unfold rdOf; rw [Int.toNat_natCast]
        rw [he] at hx
        have HB1 := Aside0.mk (HB.out.setCell (p := ⟨g, k, none⟩) hbase (.int .i64 (md (evs.getD k 0))))
        have HP := Aside0.mk hput
        clear hput he HB HO hgb e2 e3
        have hm : wrap64 (Int.tmod (evs.getD k 0) 4 + 4) = Int.tmod (evs.getD k 0) 4 + 4 := by have := tm4 (evs.getD k 0); unfold wrap64; omega
        obtain ⟨x, hxx⟩ : ∃ x, x = evs.getD k 0 := ⟨_, rfl⟩
        rw [← hxx] at hx hm HB1 HP
        clear hxx
        unfold md at HB1 HP
        go_wp2_with fail
        go_roundw
        case rel => exact ⟨k + 1, by omega, by go_num, HP, HB1⟩
        case measure => simp [intOf]; omega
      · have hk2 : k = evs.length := by omega
        subst hk2
        obtain ⟨el, hel⟩ : ∃ el, el = evs.map md := ⟨_, rfl⟩
        have hle : el.length = evs.length := by rw [hel]; simp
        have he : ∀ i : Nat, i < el.length → 0 ≤ rd el i ∧ rd el i ≤ 3 := by rw [hel]; exact rd_md evs
        rw [pre_all, ← hel, ← hle] at HO
        have HE := Aside0.mk he
        have hn : el.length ≤ 300 := by omega
        have hC := (Kd.R_reads' HO.out).2.2
        go_wp2_with fail
        rw [← hle]
        refine (run_any wr A1 c1 el co ou hC (by omega)).mono ?_
        rintro e w3 ⟨v, rfl, hown, hb3⟩
        obtain ⟨RA, rc, rfl, hrow, hrc⟩ := rowAt_of (runs_length _ _ _ _).symm hown
        have HW := Aside0.mk hrow
        have HO3 := Aside0.mk (Kd.R_below HO.out hb3)
        have HB3 := Aside0.mk (HB.out.trans (hb3.mono HB.out.size))
        clear HO HB hrow hb3 hown hel he hC
        go_wp2_with fail
        obtain ⟨N, hN⟩ : ∃ N, N = el.length := ⟨_, rfl⟩
        rw [← hle, ← hN]
        rw [← hN] at HW HO3
        have HN := Aside0.mk hN
        have HLE := Aside0.mk hle
        have N300 : N ≤ 300 := by omega
        clear hN hle
        go_loopw [49] (fun v49 wr => ∃ i : Nat, i ≤ N ∧ v49 = .int .i64 i ∧ Aside0 (RowAt wr RA (runs co ou el N)) ∧ Aside0 (Kd.R (Kd.int .i64) 3 wr w.heap.size (fun _ => True) (.slice A1 N c1) el) ∧ Aside0 (Below w.heap.size w wr)) (fun v49 _ => N - (intOf v49).toNat)
        case atStart => exact ⟨0, Nat.zero_le _, rfl, HW, HO3, HB3⟩
        case round =>
          clear HW HO3 HB3
          obtain ⟨i, hi, rfl, HW, HO, HB⟩ := hrel
          by_cases hlt : i < N
          · have p0 : (0 : Int) ≤ (i : Int) := Int.natCast_nonneg _
            have q0 : (i : Int) < (N : Int) := by omega
            have HG : (runs co ou el N)[i]? = some (after co ou (el.take (i + 1))) := by
              simp [runs, List.getElem?_map, List.getElem?_range hlt]
            have HA := Aside0.mk (ago_all co ou el hou.1 (by omega) HE.out (i + 1) (by have := HN.out; omega))
            obtain ⟨g, cs, rfl, hg, hcs⟩ := HW.out (by rw [runs_length]; omega)
            obtain ⟨c0, c1'⟩ := hcs i _ HG
            have g0 := (blk_cell hg _).trans c0
            have g1 := (blk_cell hg _).trans c1'
            clear c0 c1' hcs HG hg
            generalize after co ou (el.take (i + 1)) = q at HA g0 g1
            obtain ⟨q1, q2⟩ := q
            cases hv : valid q1 with
            | false =>
              have h0 : q2 = 0 := HA.out.inv hv
              subst h0
              go_wp2_with (first | (go_at_call 36; refine (valid_any _ q1 0).mono ?_; rintro e w4 ⟨rfl, hb4⟩; rw [hv]; have HD := Aside0.mk (blk_below (blk_new wr (.cells #[.int .i64 q1, .int .i64 0] 55)) hb4); have d0 : w4.cell? ⟨wr.heap.size, 0, none⟩ = some (.int .i64 q1) := (blk_cell HD.out 0).trans rfl; have d1 : w4.cell? ⟨wr.heap.size, 1, none⟩ = some (.int .i64 0) := (blk_cell HD.out 1).trans rfl; have HO4 := Aside0.mk (Kd.R_below (Kd.R_alloc HO.out (.cells #[.int .i64 q1, .int .i64 0] 55)) hb4); have HW4 := Aside0.mk (HW.out.keep fun g cs h => blk_below (blk_alloc h (.cells #[.int .i64 q1, .int .i64 0] 55)) hb4); have HB4 := Aside0.mk (below_step (below_alloc HB.out (.cells #[.int .i64 q1, .int .i64 0] 55)) hb4); clear hb4 HO HW HB))
              go_roundw
              case rel => exact ⟨i + 1, by omega, by go_num, HW4, HO4, HB4⟩
              case measure => simp [intOf]; omega
            | true =>
              obtain ⟨l0, l1, l2⟩ := HA.out.lo hv
              have hev := HA.out.ev hv
              have htwo := HA.out.two hv
              have HM := Aside0.mk (HA.out.miss hv)
              simp only at l0 l1 l2 hev htwo
              obtain ⟨a, ha⟩ : ∃ a : Nat, (a : Int) = (i : Int) - q2 := ⟨((i : Int) - q2).toNat, by omega⟩
              rw [show ((i + 1 : Nat) : Int) - 1 - q2 = (a : Int) by omega] at hev
              obtain ⟨ev, hev1, hev2⟩ : ∃ ev, rd el a = ev ∧ (ev = 0 ∨ ev = 1) := ⟨_, rfl, hev⟩
              have hw : wrap64 ((i : Int) - q2) = (a : Int) := by unfold wrap64; omega
              have k0 : decide (q2 < 0) = false := decide_eq_false (by omega)
              have k1 : decide (ou < q2) = false := decide_eq_false (by omega)
              have aN : (i : Int) - q2 < (N : Int) := by omega
              have a0 : (0 : Int) ≤ (i : Int) - q2 := by omega
              have hcase : (q1 = 2 ∧ decide (co ≤ q2) = true ∧ decide (0 < q2) = true) ∨ (q1 = 1 ∧ decide (co ≤ q2) = false) ∨ (q1 = 1 ∧ decide (co ≤ q2) = true ∧ decide (0 < q2) = false) := by
                have hq1 : q1 = 1 ∨ q1 = 2 := by simpa [valid] using hv
                by_cases c1 : co ≤ q2 <;> by_cases c2 : 0 < q2 <;> rcases hq1 with rfl | rfl <;> simp_all
              obtain ⟨ge, cg, e1, hbase, hgl, cells, hgb⟩ := Kd.R_form HO.out (by have := HN.out; omega)
              injection e1 with e1 e2 e3
              subst e1
              rw [ha] at hev1
              clear hbase hgl hgb e2 e3 hev htwo hw
              rcases hev2 with rfl | rfl <;> rcases hcase with ⟨rfl, t1, t2⟩ | ⟨rfl, t1⟩ | ⟨rfl, t1, t2⟩
              all_goals
                go_wp2_with (first | (go_at_call 36; refine (valid_any _ _ q2).mono ?_; rintro e w4 ⟨rfl, hb4⟩; rw [hv]; have HD := Aside0.mk (blk_below (blk_new wr (.cells #[.int .i64 _, .int .i64 q2] 55)) hb4); have d0 : w4.cell? ⟨wr.heap.size, 0, none⟩ = some (.int .i64 _) := (blk_cell HD.out 0).trans rfl; have d1 : w4.cell? ⟨wr.heap.size, 1, none⟩ = some (.int .i64 q2) := (blk_cell HD.out 1).trans rfl; have HO4 := Aside0.mk (Kd.R_below (Kd.R_alloc HO.out (.cells #[.int .i64 _, .int .i64 q2] 55)) hb4); have HW4 := Aside0.mk (HW.out.keep fun g cs h => blk_below (blk_alloc h (.cells #[.int .i64 _, .int .i64 q2] 55)) hb4); have HB4 := Aside0.mk (below_step (below_alloc HB.out (.cells #[.int .i64 _, .int .i64 q2] 55)) hb4); clear hb4 HO HW HB; have hx := (Kd.R_celln (0 : Int) HO4.out _ a0 aN).1; rw [show rdOf (0 : Int) el _ = _ from hev1] at hx))
                clear hx hev1 d0 d1 HD HA
                go_loopw [12] (fun v12 w5 => ∃ j : Nat, v12 = .int .i64 j ∧ (i : Int) - q2 + 1 ≤ j ∧ (j : Int) ≤ i + 1 ∧ Aside0 (RowAt w5 (some ⟨g, 0, none⟩) (runs co ou el N)) ∧ Aside0 (Kd.R (Kd.int .i64) 3 w5 w.heap.size (fun _ => True) (.slice (some ⟨ge, 0, none⟩) N c1) el) ∧ Aside0 (Below w.heap.size w w5)) (fun v12 _ => i + 1 - (intOf v12).toNat)
                case atStart => exact ⟨a + 1, by congr 1; omega, by omega, by omega, HW4, HO4, HB4⟩
                case round =>
                  clear HW4 HO4 HB4
                  obtain ⟨j, rfl, j0, j1, HW, HO, HB⟩ := hrel
                  by_cases hji : (j : Int) ≤ (i : Int)
                  · have jN : (j : Int) < (N : Int) := by omega
                    have j00 : (0 : Int) ≤ (j : Int) := Int.natCast_nonneg _
                    have hx := (Kd.R_celln (0 : Int) HO.out _ j00 jN).1
                    obtain ⟨m1, m2⟩ := HM.out j (show ((i + 1 : Nat) : Int) - q2 ≤ j by omega) (by omega)
                    rw [show rdOf (0 : Int) el (j : Int) = _ from m1, Int.toNat_natCast] at hx
                    have HG : (runs co ou el N)[j - 1]? = some (after co ou (el.take j)) := by
                      have hj : j - 1 < N := by omega
                      have hj2 : j - 1 + 1 = j := by omega
                      simp only [runs, List.getElem?_map, List.getElem?_range hj, Option.map_some, hj2]
                    obtain ⟨g', cs, eg, hg, hcs⟩ := HW.out (by rw [runs_length]; omega)
                    injection eg with eg
                    injection eg with eg _ _
                    subst eg
                    obtain ⟨y0, y1⟩ := hcs _ _ HG
                    have r0 := (blk_cell hg _).trans y0
                    have r1 := (blk_cell hg _).trans y1
                    clear hcs HG hg y0 y1
                    generalize after co ou (el.take j) = q' at m2 r0 r1
                    obtain ⟨z1, z2⟩ := q'
                    simp only at m2 r0 r1
                    have b1 : (0 : Int) ≤ (j : Int) - 1 := by omega
                    have b2 : (j : Int) - 1 < (N : Int) := by omega
                    go_wp2_with fail
                    refine (valid_any _ z1 z2).mono ?_; rintro e w6 ⟨rfl, hb6⟩; rw [m2]
                    go_wp2_with fail
                    have HO6 := Aside0.mk (Kd.R_below HO.out hb6)
                    have HW6 := Aside0.mk (HW.out.keep fun g cs h => blk_below h hb6)
                    have HB6 := Aside0.mk (below_step HB.out hb6)
                    clear hb6 HO HW HB
                    go_roundw
                    case rel => exact ⟨j + 1, by go_num, by omega, by omega, HW6, HO6, HB6⟩
                    case measure => simp [intOf]; omega
                  · go_wp2_with fail
                    go_roundw
                    case rel => exact ⟨i + 1, by omega, by go_num, HW, HO, HB⟩
                    case measure => simp [intOf]; omega
          · have hi2 : i = N := by omega
            subst hi2
            go_wp2_with (first | (go_at_call 33; refine (fixed_any _).mono ?_; rintro e w1 ⟨rfl, hb⟩))
            go_ret
            exact ⟨rfl, below_step HB.out hb⟩
theorem u16_in {co : Int} (wc : (Lit.int .u16 co).wf = true) : 0 ≤ co ∧ co < 65536 := by
  have h1 : IntKind.u16.min = 0 := by decide
  have h2 : IntKind.u16.max = 65535 := by decide
  simp [Lit.wf, h1, h2] at wc
  omega
theorem lawAgo_row (w : World) (a0 : Option Addr) (len0 cap0 : Nat) (z0 : List Int) (co ou : Int) (wc : (Lit.int .u16 co).wf = true) (wo : (Lit.int .u16 ou).wf = true)
    (w0 : (a0 = none ∧ len0 = 0 ∧ cap0 = 0 ∧ z0 = []) ∨ ∃ x, a0 = some x ∧ len0 ≤ cap0 ∧ cap0 ≤ maxLen ∧ z0.length = cap0 ∧ (∀ i, i < z0.length → w.cell? (x.add i) = some (.int .i64 (z0.getD i 0))) ∧ ∀ n ∈ z0, (Lit.int .i64 n).wf = true) :
    Calls Try.prog 10 #[.slice a0 len0 cap0, .int .u16 co, .int .u16 ou] w fun e w' => e = .returned (.bool true) ∧ Below w.heap.size w w' := by
  obtain ⟨l0, rfl, hr0, _, _, _⟩ := ReadsInt.ofRowC w0
  have h1 : 0 ≤ co ∧ co < 65536 := u16_in wc
  have h2 : 0 ≤ ou ∧ ou < 65536 := u16_in wo
  exact lawAgo_any w a0 cap0 l0 co ou (Kd.C_of_reads (d := (0 : Int)) (h1 := fun _ => rfl) hr0) h1 h2
end Go.Proofs.Ytoknlaknffpigaa.Mi
