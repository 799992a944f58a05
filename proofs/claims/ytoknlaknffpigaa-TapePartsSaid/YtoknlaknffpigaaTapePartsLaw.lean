/- Bytes of ticks, one part behind the other, are read as both parts' ticks; a byte that is another one changes the sum: the walk of the law TapeParts of layer 21. -/
import Derived.Test.YtoknlaknffpigaaTapePutsLaw
import Derived.Test.YtoknlaknffpigaaTapeSumPlain
namespace Go.Proofs.Ytoknlaknffpigaa.Tp
open Go.RowKit Go.Proofs.YtoknlaknffpigaaW.PrintWords Go.Proofs.YtoknlaknffpigaaW.PrintLast Go.Proofs.YtoknlaknffpigaaW.PrintMore Go.Proofs.Ytoknlaknffpigaa.PTapePuts Go.Proofs.Ytoknlaknffpigaa.Tm
set_option linter.unusedVariables false
set_option linter.unusedSimpArgs false

theorem sum_any (w : World) (A : Option Addr) (c : Nat) (l : List Int) (hr : Kd.C (Kd.int .u8) w A l.length l) (hc : l.length ≤ c) (hl : l.length ≤ 1000000) :
    Calls Try.prog 42 #[.slice A l.length c] w fun e w' => e = .returned (.int .u64 (Ts.sm 14695981039346656037 l)) ∧ Below w.heap.size w w' := by
  refine (PTapeTold.tape_Sum.calls (l.length + 1) A c l _ w hr hc (Ts.sum_f l hl)).mono ?_
  rintro e w' ⟨he, hd⟩
  exact ⟨he, hd.below⟩

theorem ne_of {v u : Value} {N : Nat} (hv : ∃ b, v.ownBlock = some b ∧ N ≤ b) (hu : ∀ k, u.ownBlock = some k → k < N) : v.ownBlock ≠ u.ownBlock := by
  intro e
  obtain ⟨b, h1, h2⟩ := hv
  rw [h1] at e
  have := hu b e.symm
  omega
theorem at_of {v v1 : Value} {N M : Nat} (h : v1.ownBlock = v.ownBlock ∨ ∃ b, v1.ownBlock = some b ∧ M ≤ b) (hv : ∃ b, v.ownBlock = some b ∧ N ≤ b) (hm : N ≤ M) : ∃ b, v1.ownBlock = some b ∧ N ≤ b := by
  rcases h with h | ⟨b, h1, h2⟩
  · rw [h]
    exact hv
  · exact ⟨b, h1, Nat.le_trans hm h2⟩

theorem rd_byte {l : List Int} (h : Bytes l) (d : Int) : 0 ≤ rdOf (0 : Int) l d ∧ rdOf (0 : Int) l d ≤ 255 := by
  unfold rdOf
  rw [List.getD_eq_getElem?_getD]
  by_cases hd : d.toNat < l.length
  · rw [List.getElem?_eq_getElem hd]
    exact h _ (List.getElem_mem hd)
  · rw [List.getElem?_eq_none (by omega)]
    exact ⟨Int.le_refl _, by decide⟩
theorem xor_one (x a : Int) (hx : 0 ≤ x ∧ x ≤ 255) (ha : 0 ≤ a) : (0 ≤ Go.bits .xor .u8 x (1 + a / 256 % 255) ∧ Go.bits .xor .u8 x (1 + a / 256 % 255) ≤ 255) ∧ Go.bits .xor .u8 x (1 + a / 256 % 255) ≠ x := by
  obtain ⟨q, hq⟩ : ∃ q, q = 1 + a / 256 % 255 := ⟨_, rfl⟩
  have q0 : 1 ≤ q ∧ q < 256 := by omega
  rw [← hq, u8_xor x q hx.1 (by omega) (by omega) q0.2]
  have h1 : x.toNat ^^^ q.toNat < 256 := Nat.xor_lt_two_pow (n := 8) (by omega) (by omega)
  refine ⟨⟨by omega, by omega⟩, fun h => ?_⟩
  have h2 : x.toNat ^^^ q.toNat = x.toNat := by omega
  have h3 := congrArg (x.toNat ^^^ ·) h2
  simp only [← Nat.xor_assoc, Nat.xor_self, Nat.zero_xor] at h3
  omega

set_option maxRecDepth 100000 in
set_option maxHeartbeats 4000000 in
theorem lawParts_any (w : World) (A B : Option Addr) (ca cb : Nat) (la lb : List S33) (at_ : Int) (ha : Kd.C k33 w A la.length la) (hb : Kd.C k33 w B lb.length lb) (hat : 0 ≤ at_ ∧ at_ < 65536) (oa : ∀ t ∈ la, OkT t) (ob : ∀ t ∈ lb, OkT t) :
    Calls Try.prog 14 #[.slice A la.length ca, .slice B lb.length cb, .int .u16 at_] w fun e w' => e = .returned (.bool true) ∧ Below w.heap.size w w' := by
  have HA := Aside0.mk ha
  have HB := Aside0.mk hb
  have OA := Aside0.mk oa
  have OB := Aside0.mk ob
  clear ha hb oa ob
  by_cases hla : 60 < la.length
  · have h1 : decide ((60 : Int) < (la.length : Int)) = true := decide_eq_true (by omega)
    go_enter Try.func14, Try.ntmps14
    go_wp2_with (first | (go_at_call 39; refine (fixed_any _).mono ?_; rintro e w1 ⟨rfl, hb⟩))
    go_ret
    exact ⟨rfl, hb⟩
  by_cases hlb : 60 < lb.length
  · have h1 : decide ((60 : Int) < (la.length : Int)) = false := decide_eq_false (by omega)
    have h2 : decide ((60 : Int) < (lb.length : Int)) = true := decide_eq_true (by omega)
    go_enter Try.func14, Try.ntmps14
    go_wp2_with (first | (go_at_call 39; refine (fixed_any _).mono ?_; rintro e w1 ⟨rfl, hb⟩))
    go_ret
    exact ⟨rfl, hb⟩
  have h1 : decide ((60 : Int) < (la.length : Int)) = false := decide_eq_false (by omega)
  have h2 : decide ((60 : Int) < (lb.length : Int)) = false := decide_eq_false (by omega)
  go_enter Try.func14, Try.ntmps14
  go_wp2_with fail
  refine (put_any w A ca la HA.out (by omega)).mono ?_
  rintro e w1 ⟨v1, rfl, ho1, hb1⟩
  have HO1 := Aside0.mk ho1
  have HW := Aside0.mk hb1
  clear ho1
  go_wp2_with fail
  refine (put_any w1 B cb lb (Kd.C_below HB.out hb1) (by omega)).mono ?_
  rintro e w2 ⟨v2, rfl, ho2, hb2⟩
  have HO2 := Aside0.mk (Kd.R_lower ho2 HW.out.size)
  replace HO1 := Aside0.mk (Kd.R_below HO1.out hb2)
  replace HW := Aside0.mk (below_step HW.out hb2)
  clear ho2 hb1 hb2
  rcases put_no la with ea | ea
  · rcases put_no lb with eb | eb
    · obtain ⟨pa, qa⟩ := put_ok la ea
      obtain ⟨pb, qb⟩ := put_ok lb eb
      rw [qa] at HO1
      rw [qb] at HO2
      rw [ea, eb]
      have ha17 := tbs_length la
      have hb17 := tbs_length lb
      obtain ⟨xs, hxs⟩ : ∃ xs, xs = la.flatMap tb := ⟨_, rfl⟩
      obtain ⟨ys, hys⟩ : ∃ ys, ys = lb.flatMap tb := ⟨_, rfl⟩
      rw [← hxs] at HO1 ha17
      rw [← hys] at HO2 hb17
      have HXS := Aside0.mk hxs
      have HYS := Aside0.mk hys
      clear hxs hys qa qb ea eb
      obtain ⟨A1, c1, rfl⟩ := Kd.R_slice HO1.out
      obtain ⟨A2, c2, rfl⟩ := Kd.R_slice HO2.out
      have lt1 := Aside0.mk (Kd.R_lt HO1.out)
      have lt2 := Aside0.mk (Kd.R_lt HO2.out)
      go_wp2_with (first
        | ((with_reducible refine gate_dst (N := 41) rfl ?_); refine Kd.R_lit (Kd.int .u8) (w0 := w) w.heap.size 5 rfl (N := 41) rfl (xs := ([] : List Int)) (inner := []) (ok := fun _ => True) (okp := fun _ => True) ?hr (Reps.none _ _) (fun _ hk => hk) trivial HW.out HW.out.size (by simp) ?_; (case hr => first | (go_simp; done) | (go_simp; rfl)); intro v41 w3 ho hb hg hat; have HL := Aside0.mk ho; have HT := Aside0.mk hat; replace HO1 := Aside0.mk (Kd.R_grown HO1.out hg (fun k _ => by simp)); replace HO2 := Aside0.mk (Kd.R_grown HO2.out hg (fun k _ => by simp)); replace HW := Aside0.mk hb; clear ho hb hg hat)
        | ((with_reducible refine gate_builtin (b := .append) (xs := #[.tmp 41, .tmp 42]) rfl ?_); at_builtin; refine Kd.R_append_row (Value.int .u8) (0 : Int) (w0 := w) w.heap.size rfl (.tmp 41) (.tmp 42) 68 5 (.int .u8 0) 1 rfl Try.underlying68 info5 rfl (by decide) v41 [] xs A1 xs.length c1 (fun _ => True) rfl rfl (fun _ _ => trivial) HL.out ((Kd.R_reads' HO1.out).2.2) HW.out HW.out.size (by simp; omega) ?_; intro v43 w4 ho hb hg hat; replace HO2 := Aside0.mk (Kd.R_grown1 HO2.out rfl hg (fun e => by obtain ⟨bb, hb1, hb2⟩ := HT.out; rw [hb1] at e; have := lt2.out bb e.symm; omega)); have HT2 := Aside0.mk hat; have HL2 := Aside0.mk ho; replace HW := Aside0.mk hb; clear ho hb hg hat)
        | ((with_reducible refine gate_builtin (b := .append) (xs := #[.tmp 43, .tmp 44]) rfl ?_); at_builtin; refine Kd.R_append_row (Value.int .u8) (0 : Int) (w0 := w) w.heap.size rfl (.tmp 43) (.tmp 44) 68 5 (.int .u8 0) 1 rfl Try.underlying68 info5 rfl (by decide) v43 ([] ++ xs) ys A2 ys.length c2 (fun _ => True) rfl rfl (fun _ _ => trivial) HL2.out ((Kd.R_reads' HO2.out).2.2) HW.out HW.out.size (by simp; omega) ?_; intro v45 w5 ho hb hg hat; have HL3 := Aside0.mk ho; replace HW := Aside0.mk hb; clear ho hb hg hat HL2 HT2 HL HT HO1 HO2))
      obtain ⟨all, hall⟩ : ∃ all, all = ([] ++ xs) ++ ys := ⟨_, rfl⟩
      rw [← hall] at HL3
      have hall2 : all = (la ++ lb).flatMap tb := by rw [hall, HXS.out, HYS.out, List.flatMap_append, List.nil_append]
      have hbytes : Bytes all := by
        rw [hall2]
        intro x hx
        obtain ⟨t, _, ht⟩ := List.mem_flatMap.1 hx
        exact tb_bytes t x ht
      have hal : all.length ≤ 2040 := by rw [hall]; simp; omega
      have hlen := tbs_long (la ++ lb)
      rw [← hall2] at hlen
      have hget : get (all.length + 1) all [] = (la ++ lb, 0) := by
        have h := get_put (all.length + 1) (la ++ lb) [] (by omega) (by rw [List.any_append, pa, pb]; rfl) (fun t ht => (List.mem_append.1 ht).elim (OA.out t) (OB.out t))
        rw [← hall2] at h
        simpa using h
      have HBY := Aside0.mk hbytes
      clear hall hall2 hbytes lt1 lt2 HXS HYS pa pb ha17 hb17
      obtain ⟨A5, c5, rfl⟩ := Kd.R_slice HL3.out
      refine (get_walk w5 A5 c5 all (Kd.R_reads' HL3.out).2.2 (Kd.R_reads' HL3.out).2.1 HBY.out (by omega)).mono ?_
      rintro e w6 ⟨m, rfl, hm, hb6⟩
      rw [hget] at hm ⊢
      clear hget
      replace HL3 := Aside0.mk (Kd.R_below HL3.out hb6)
      have HM := Aside0.mk (Kd.R_lower hm HW.out.size)
      replace HW := Aside0.mk (below_step HW.out hb6)
      clear hm hb6
      obtain ⟨Am, cm, rfl⟩ := Kd.R_slice HM.out
      have ltm := Aside0.mk (Kd.R_lt HM.out)
      have lt3 := Aside0.mk (Kd.R_lt HL3.out)
      go_wp2_with (first
        | ((with_reducible refine gate_dst (N := 55) rfl ?_); (try (refine gate_guard (by rfl) ?_; dsimp only)); refine Kd.R_lit k33 (w0 := w) w.heap.size 33 ?hg (N := 55) rfl (xs := ([] : List S33)) (inner := []) (ok := fun _ => True) (okp := fun _ => True) ?hr (Reps.none _ _) (fun _ hk => hk) trivial HW.out HW.out.size (by simp) ?_; (case hg => rfl); (case hr => first | (go_simp; done) | (go_simp; rfl)); intro v55 w7 ho hb hg hat; have HL := Aside0.mk ho; have HT := Aside0.mk hat; replace HL3 := Aside0.mk (Kd.R_grown HL3.out hg (fun k _ => by simp)); replace HM := Aside0.mk (Kd.R_grown HM.out hg (fun k _ => by simp)); replace HW := Aside0.mk hb; have s7 := hg.size; clear ho hb hg hat)
        | ((with_reducible refine gate_builtin (b := .append) (xs := #[.tmp 55, .tmp 56]) rfl ?_); (try (refine gate_guard (by rfl) ?_; dsimp only)); at_builtin; refine Kd.R_append_rows k33 (w0 := w) w.heap.size rfl (.tmp 55) (.tmp 56) 37 33 (.agg #[(.int .i64 0), (.bool false), (.int .i64 0), (.bool false)]) 32 rfl Try.underlying37 info33 rfl (by decide) (by omega) v55 [] la A la.length ca (fun _ => True) (fun _ => False) rfl rfl HL.out (Kd.C_below HA.out HW.out) (fun _ _ h => h) (fun _ h => h.elim) (fun _ _ => trivial) HW.out HW.out.size (by simp; omega) ?_; intro v57 w8 ho hb hg hat; replace HL3 := Aside0.mk (Kd.R_grown1 HL3.out rfl hg (ne_of HT.out lt3.out)); replace HM := Aside0.mk (Kd.R_grown1 HM.out rfl hg (ne_of HT.out ltm.out)); have HL57 := Aside0.mk ho; have HT57 := Aside0.mk (at_of hat HT.out s7); have s8 := Nat.le_trans s7 hg.size; replace HW := Aside0.mk hb; clear ho hb hg hat)
        | ((with_reducible refine gate_builtin (b := .append) (xs := #[.tmp 57, .tmp 58]) rfl ?_); (try (refine gate_guard (by rfl) ?_; dsimp only)); at_builtin; refine Kd.R_append_rows k33 (w0 := w) w.heap.size rfl (.tmp 57) (.tmp 58) 37 33 (.agg #[(.int .i64 0), (.bool false), (.int .i64 0), (.bool false)]) 32 rfl Try.underlying37 info33 rfl (by decide) (by omega) v57 ([] ++ la) lb B lb.length cb (fun _ => True) (fun _ => False) rfl rfl HL57.out (Kd.C_below HB.out HW.out) (fun _ _ h => h) (fun _ h => h.elim) (fun _ _ => trivial) HW.out HW.out.size (by simp; omega) ?_; intro v59 w9 ho hb hg hat; replace HL3 := Aside0.mk (Kd.R_grown1 HL3.out rfl hg (ne_of HT57.out lt3.out)); replace HM := Aside0.mk (Kd.R_grown1 HM.out rfl hg (ne_of HT57.out ltm.out)); have HL59 := Aside0.mk ho; have HT59 := Aside0.mk (at_of hat HT57.out s8); have s9 := Nat.le_trans s8 hg.size; replace HW := Aside0.mk hb; clear ho hb hg hat))
      obtain ⟨A9, c9, rfl⟩ := Kd.R_slice HL59.out
      have HLS := Aside0.mk (show Kd.R k33 33 w9 w.heap.size (fun _ => True) (.slice A9 (([] ++ la) ++ lb).length c9) (la ++ lb) from HL59.out)
      have hsame := sameS_any w9 Am cm A9 c9 (la ++ lb) (Kd.R_reads' HM.out).2.2 (Kd.R_reads' HM.out).2.1 (Kd.R_reads' HLS.out).2.2 (Kd.R_reads' HLS.out).2.1 (by rw [List.length_append]; omega)
      have elen : (([] ++ la) ++ lb).length = (la ++ lb).length := rfl
      simp only [List.nil_append, List.length_append] at hsame ⊢
      refine hsame.mono ?_
      clear hsame
      rintro e w10 ⟨rfl, hb10⟩
      replace HL3 := Aside0.mk (Kd.R_below HL3.out hb10)
      replace HW := Aside0.mk (below_step HW.out hb10)
      clear hb10 HLS HL59 HT59 HM ltm lt3 elen
      by_cases h0 : all.length = 0
      · have z0 : decide ((all.length : Int) = 0) = true := decide_eq_true (by omega)
        go_wp2_with (first | (go_at_call 39; refine (fixed_any _).mono ?_; rintro e w3 ⟨rfl, hb3⟩))
        go_ret
        exact ⟨rfl, below_step HW.out hb3⟩
      · have z0 : decide ((all.length : Int) = 0) = false := decide_eq_false (by omega)
        obtain ⟨g, cg, e1, hbase, hgl, cells, hgb⟩ := Kd.R_form HL3.out (by omega)
        injection e1 with e1 e2 e3
        subst e1
        subst e3
        clear e2 hgb cells
        go_wp2_with fail
        refine (sum_any w10 _ _ all (Kd.R_reads' HL3.out).2.2 (Kd.R_reads' HL3.out).2.1 (by omega)).mono ?_
        rintro e w11 ⟨rfl, hb11⟩
        replace HL3 := Aside0.mk (Kd.R_below HL3.out hb11)
        replace HW := Aside0.mk (below_step HW.out hb11)
        clear hb11
        obtain ⟨d, hd⟩ : ∃ d, d = Int.tmod at_ (all.length : Int) := ⟨_, rfl⟩
        have d0 : 0 ≤ d := by rw [hd]; exact Int.tmod_nonneg _ hat.1
        have d1 : d < (all.length : Int) := by rw [hd]; exact Int.tmod_lt_of_pos _ (by omega)
        have wd : wrap64 d = d := w64 (by omega) (by omega)
        have wa : wrap64 at_ = at_ := w64 (by omega) (by omega)
        obtain ⟨hx, hf⟩ := Kd.R_celln (0 : Int) HL3.out d d0 d1
        have q1 : decide ((0 : Int) ≤ d) = true := decide_eq_true d0
        have q2 : decide (d < (all.length : Int)) = true := decide_eq_true d1
        have hdd := hd.symm
        clear hd
        obtain ⟨hy0, hy1⟩ := xor_one (rdOf (0 : Int) all d) at_ (rd_byte HBY.out d) hat.1
        have hset := Aside0.mk (Ts.sm_set all HBY.out _ hy0 d.toNat 14695981039346656037 (by omega) (by omega) (by rw [Int.toNat_of_nonneg d0]; exact Ne.symm hy1))
        have hput := Aside0.mk (Kd.R_putn HL3.out d (Go.bits .xor .u8 (rdOf (0 : Int) all d) (1 + at_ / 256 % 255)))
        have HP := Aside0.mk (HW.out.setCell (p := ⟨g, d.toNat, none⟩) hbase (Value.int .u8 (Go.bits .xor .u8 (rdOf (0 : Int) all d) (1 + at_ / 256 % 255))))
        obtain ⟨was, hwas⟩ : ∃ was, was = Ts.sm 14695981039346656037 all := ⟨_, rfl⟩
        rw [← hwas] at hset ⊢
        clear hwas HL3 HW hy0 hy1
        go_wp2_with fail
        clear hx hf
        generalize w11.setCell ⟨g, d.toNat, none⟩ (Value.int .u8 (Go.bits .xor .u8 (rdOf (0 : Int) all d) (1 + at_ / 256 % 255))) = w12 at hput HP ⊢
        refine (fixed_any _).mono ?_
        rintro e w13 ⟨rfl, hb13⟩
        replace hput := Aside0.mk (Kd.R_below hput.out hb13)
        replace HP := Aside0.mk (below_step HP.out hb13)
        clear hb13
        generalize Go.bits .xor .u8 (rdOf (0 : Int) all d) (1 + at_ / 256 % 255) = y at hput hset
        obtain ⟨al2, hal2⟩ : ∃ al2, al2 = all.set d.toNat y := ⟨_, rfl⟩
        have hle : al2.length = all.length := by rw [hal2]; simp
        rw [← hal2] at hput hset
        rw [← hle] at hput
        have hle1 : al2.length ≤ 2040 := by omega
        have HLE := Aside0.mk hle
        clear hal2 q2 d1 hle
        go_wp2_with fail
        rw [← HLE.out]
        refine (sum_any w13 _ _ al2 (Kd.R_reads' hput.out).2.2 (Kd.R_reads' hput.out).2.1 (by omega)).mono ?_
        rintro e w14 ⟨rfl, hb14⟩
        replace HP := Aside0.mk (below_step HP.out hb14)
        clear hb14
        have hne : (Ts.sm 14695981039346656037 al2 != was) = true := by simp only [bne_iff_ne]; exact hset.out
        go_wp2_with fail
        go_ret
        exact ⟨by simp, HP.out⟩
    · rw [ea, eb]
      go_wp2_with (first | (go_at_call 39; refine (fixed_any _).mono ?_; rintro e w3 ⟨rfl, hb3⟩))
      go_ret
      exact ⟨rfl, below_step HW.out hb3⟩
  · rw [ea]
    generalize (put lb).2 = pe
    go_wp2_with (first | (go_at_call 39; refine (fixed_any _).mono ?_; rintro e w3 ⟨rfl, hb3⟩))
    go_ret
    exact ⟨rfl, below_step HW.out hb3⟩
theorem u16_in {co : Int} (wc : (Lit.int .u16 co).wf = true) : 0 ≤ co ∧ co < 65536 := by
  have h1 : IntKind.u16.min = 0 := by decide
  have h2 : IntKind.u16.max = 65535 := by decide
  simp [Lit.wf, h1, h2] at wc
  omega
theorem lawParts_row (w : World) (A : Option Addr) (la ca : Nat) (a : List Tk.T) (hla : a.length = la) (hoa : ∀ t ∈ a, Tk.OkT t) (hra : ReadsRow (fun t c => c = Tk.cellsOfT t) 4 w A la a)
    (B : Option Addr) (lb cb : Nat) (b : List Tk.T) (hlb : b.length = lb) (hob : ∀ t ∈ b, Tk.OkT t) (hrb : ReadsRow (fun t c => c = Tk.cellsOfT t) 4 w B lb b) (x : Int) (wx : (Lit.int .u16 x).wf = true) :
    Calls Try.prog 14 #[.slice A la ca, .slice B lb cb, .int .u16 x] w fun e w' => e = .returned (.bool true) ∧ Below w.heap.size w w' := by
  obtain ⟨h1, h2, h3⟩ := ticks_of hla hoa hra
  obtain ⟨g1, g2, g3⟩ := ticks_of hlb hob hrb
  rw [← h1, ← g1]
  exact lawParts_any w A B ca cb (a.map s33) (b.map s33) x h2 g2 (u16_in wx) h3 g3
end Go.Proofs.Ytoknlaknffpigaa.Tp
