/- A part of the proof of the law TopNone of the top, where the package's tables hold what their initialisers lay. -/
import Derived.Test.YtpdahkgandaabaaGreatDoorS01
import Derived.Test.YtpdahkgandaabaaGreatDoorS24
import Derived.Test.YtpdahkgandaabaaGreatDoorS27
namespace Go.Proofs.YtpdahkgandaabaaGreatDoor.Ch
open Go.RowKit Go.Proofs.YtpdahkgandaabaaGreatDoorW.PrintWords Go.Proofs.YtpdahkgandaabaaGreatDoorW.PrintLast Go.Proofs.YtpdahkgandaabaaGreatDoorW.PrintMore Go.Proofs.YtpdahkgandaabaaGreatDoor.PTopNames Go.Proofs.YtpdahkgandaabaaGreatDoor.Al
set_option linter.unusedVariables false
set_option linter.unusedSimpArgs false
set_option maxRecDepth 100000 in
set_option maxHeartbeats 4000000 in
theorem refgood_any (w : World) (p : Int) : Calls Tryz.prog 8 #[.int .i64 p] w fun e w' => e = .returned (.bool (good p)) ∧ Below w.heap.size w w' := by
 unfold good
 by_cases h1 : 90527 < p
 ·
  have q1 : decide ((90527 : Int) < p) = true := decide_eq_true h1
  have e1 : decide ((90528 : Int) ≤ p) = true := decide_eq_true (by omega)
  by_cases h2 : p < 430516
  ·
   have q2 : decide (p < (430516 : Int)) = true := decide_eq_true h2
   have e2 : decide (p ≤ (430515 : Int)) = true := decide_eq_true (by omega)
   rw [e1, e2]
   go_enter Tryz.func8, Tryz.ntmps8
   go_wp2_with fail
   go_ret
   exact ⟨rfl, Below.refl _ _⟩
  ·
   have q2 : decide (p < (430516 : Int)) = false := decide_eq_false h2
   have e2 : decide (p ≤ (430515 : Int)) = false := decide_eq_false (by omega)
   rw [e1, e2]
   go_enter Tryz.func8, Tryz.ntmps8
   go_wp2_with fail
   go_ret
   exact ⟨rfl, Below.refl _ _⟩
 ·
  have q1 : decide ((90527 : Int) < p) = false := decide_eq_false h1
  have e1 : decide ((90528 : Int) ≤ p) = false := decide_eq_false (by omega)
  rw [e1]
  go_enter Tryz.func8, Tryz.ntmps8
  go_wp2_with fail
  go_ret
  exact ⟨rfl, Below.refl _ _⟩
set_option maxRecDepth 100000 in
set_option maxHeartbeats 4000000 in
theorem refbrings_any (w : World) (a p : Int) (has sh : Bool) : Calls Tryz.prog 16 #[.agg #[.int .i64 a, .bool has, .int .i64 p, .bool sh]] w fun e w' => e = .returned (.tuple #[.int .i64 (if has && good p then p else 0), .bool (has && good p)]) ∧ Below w.heap.size w w' := by
 have hgk := fun w => refgood_any w p
 generalize good p = k at hgk ⊢
 have hx := blk_new w (.cells #[.int .i64 a, .bool has, .int .i64 p, .bool sh] 37)
 have HB := am (below_alloc (Below.refl w.heap.size w) (.cells #[.int .i64 a, .bool has, .int .i64 p, .bool sh] 37))
 go_enter Tryz.func16, Tryz.ntmps16
 go_upto_region 1 with fail
 generalize w.alloc (.cells #[.int .i64 a, .bool has, .int .i64 p, .bool sh] 37) = w1 at hx HB ⊢
 obtain ⟨b, hb⟩ : ∃ b, b = w.heap.size := ⟨_, rfl⟩
 rw [← hb] at hx ⊢
 have HX := am hx
 clear hx
 have HW := am hb
 clear hb
 have y1 := bcv HX.out 1 (.bool has) rfl
 have y2 := bcv HX.out 2 (.int .i64 p) rfl
 cases has with
 | false =>
  go_wp2_with fail
  go_ret2
  exact ⟨rfl, HB.out⟩
 | true =>
  cases k with
  | false =>
   go_wp2_with fail
   refine (hgk w1).mono ?_
   rintro e w2 ⟨rfl, hb⟩
   have HB2 := am (below_step HB.out hb)
   clear hb y1 y2
   go_wp2_with fail
   go_ret2
   exact ⟨rfl, HB2.out⟩
  | true =>
   go_wp2_with fail
   refine (hgk w1).mono ?_
   rintro e w2 ⟨rfl, hb⟩
   have HX2 := am (blk_below HX.out hb)
   have HB2 := am (below_step HB.out hb)
   clear hb y1 y2
   have y2 := bcv HX2.out 2 (.int .i64 p) rfl
   go_wp2_with fail
   go_ret2
   exact ⟨rfl, HB2.out⟩
theorem neq39 {op : Oper} {a : Act} (t0 : Int) (t1 t2 t3 t4 t5 : Bool) (t6 t7 t8 : Int) (x y : Operand) (ho : op.op = .binOp .neq 39 x y 39) (hx : a.eval x = .agg #[.int .i64 t0, .bool t1, .bool t2, .bool t3, .bool t4, .bool t5, .int .i64 t6, .int .i64 t7, .int .i64 t8]) (hy : a.eval y = .agg #[.int .i64 t0, .bool t1, .bool t2, .bool t3, .bool t4, .bool t5, .int .i64 t6, .int .i64 t7, .int .i64 t8]) (w : World) : (execOp a.eval op).run Tryz.prog w = .ok (.value (.bool false)) w := by
 unfold execOp
 simp only [ho, hx, hy]
 simp [go_sem]
def Pair (w W : World) (c : Cf) (g f gr g2 f2 gr2 : Nat) : Prop := ∃ (s : Gs) (v v2 : Value) (mode since last run count : Int) (known : Bool) (l : List Int), l.length ≤ 15 ∧ Chan w W g f gr s c v mode since last run (mx c.band 0) c.r c.rg count known l ∧
 Chan w W g2 f2 gr2 s c v2 mode since last run (mx c.band 0) c.r c.rg count known l ∧ Apart g f gr v g2 f2 gr2 v2
theorem Chan.out_of {w0 W : World} {g f gr : Nat} {s : Gs} {c : Cf} {v : Value} {mode since last run band noise rough count : Int} {known : Bool} {l : List Int} (h : Chan w0 W g f gr s c v mode since last run band noise rough count known l) {b : Nat} {cs : Array Value} {t : TypeId} (hb : W.heap[b]? = some (.cells cs t (0, 0)))
  (ht : t ≠ 56 ∧ t ≠ 101 ∧ t ≠ 93 ∧ t ≠ 2) : ¬ (b = g ∨ b = f ∨ b = gr ∨ v.ownBlock = some b) := fun e => by
 rcases e with e | e | e | e
 ·
  exact blk_ne hb h.hg ht.1 e
 ·
  exact blk_ne hb h.hf ht.2.1 e
 ·
  exact (h.hi.ne_blk hb ht.2.2.1) e.symm
 ·
  exact (Kd.R_ne h.hr hb (fun e => ht.2.2.2 e.symm)) e.symm
set_option maxRecDepth 100000 in
set_option maxHeartbeats 4000000 in
theorem none_any (w : World) (hG : G w) (c : Cf) (A : Option Addr) (n cap : Nat) (ts : List T4) (hts : ReadsRow (fun t c => c = cellsT t) 4 w A n ts) (at_ : Int) (h0 : 0 ≤ at_) (h1 : at_ ≤ 65535) :
  Calls Tryz.prog 5 #[.agg c.v, .slice A n cap, .int .u16 at_] w fun e w' => e = .returned (.bool true) ∧ Below w.heap.size w w' := by
 have HG := am hG
 have HTS := am hts
 have HAT := am (And.intro h0 h1)
 clear hG hts h0 h1
 have hnil : ∀ (g : Nat) (w : World), (binOp .eql 33 (.pointer (some ⟨g, 0, none⟩)) (.pointer none)).run Tryz.prog w = .ok (.bool false) w := fun _ _ => by first | rfl | (simp [go_sem]; done)
 go_enter Tryz.func5, Tryz.ntmps5
 go_upto_region 1 with fail
 have hx := blk_new w (.cells c.v 28)
 have HB := am (below_alloc (Below.refl w.heap.size w) (.cells c.v 28))
 generalize w.alloc (.cells c.v 28) = w1 at hx HB ⊢
 obtain ⟨b3, hb3⟩ : ∃ b, b = w.heap.size := ⟨_, rfl⟩
 rw [← hb3] at hx ⊢
 have H3 := am hx
 have l3 : w.heap.size ≤ b3 := by omega
 clear hx hb3
 iterate 2 go_step
 refine wp_load_row 28 (.tmp 3) rfl b3 rfl 28 c.v (0, 0) _ H3.out Tryz.underlying28 rfl (by kernel_rfl) ?_
 go_wp2_with fail
 refine (check_any w1 c).mono ?_
 rintro e w2 ⟨rfl, hb⟩
 replace H3 := am (blk_below H3.out hb)
 replace HB := am (below_step HB.out hb)
 clear hb
 obtain ⟨ck, hck⟩ : ∃ k, k = checkR c := ⟨_, rfl⟩
 rw [← hck]
 by_cases hc : ck = 0
 ·
  subst hc
  have HC := am hck.symm
  clear hck
  by_cases hn : 300 < n
  ·
   have qn : decide ((300 : Int) < (n : Int)) = true := decide_eq_true (by omega)
   go_wp2_with fail
   refine (fixed_any w2 (HG.out.below HB.out)).mono ?_
   rintro e w3 ⟨rfl, hb⟩
   go_wp2_with fail
   go_ret
   exact ⟨rfl, below_step HB.out hb⟩
  ·
   have qn : decide ((300 : Int) < (n : Int)) = false := decide_eq_false (by omega)
   go_upto_region 3 with fail
   clear qn
   iterate 2 go_step
   refine wp_load_row 28 (.tmp 3) rfl b3 rfl 28 c.v (0, 0) _ H3.out Tryz.underlying28 rfl (by kernel_rfl) ?_
   go_wp2_with fail
   refine (new_any w2 c HC.out).mono ?_
   rintro e w3 ⟨g, f, gr, rfl, hg, hf, hi, g0, f0, hb⟩
   have H1 := am (Chan.rebase (w0 := w) ⟨hg, hf, hi, Kd.R_nil _ _ _ _ _, g0, f0, hb⟩ HB.out)
   replace H3 := am (blk_below H3.out hb)
   replace HB := am (below_step HB.out hb)
   clear hg hf hi g0 f0 hb
   go_upto_region 4 with fail
   iterate 2 go_step
   refine wp_load_row 28 (.tmp 3) rfl b3 rfl 28 c.v (0, 0) _ H3.out Tryz.underlying28 rfl (by kernel_rfl) ?_
   go_wp2_with fail
   refine (new_any w3 c HC.out).mono ?_
   rintro e w4 ⟨g2, f2, gr2, rfl, hg, hf, hi, g0, f0, hb⟩
   have HP := am (show Pair w w4 c g f gr g2 f2 gr2 from ⟨_, _, _, _, _, _, _, _, _, _, Nat.zero_le _, H1.out.below hb, Chan.rebase (w0 := w) ⟨hg, hf, hi, Kd.R_nil _ _ _ _ _, g0, f0, hb⟩ HB.out,
    fun e => by have := blk_lt H1.out.hg; omega, fun e => by have := blk_lt H1.out.hf; omega, fun e => by have := blk_lt H1.out.hi.1; have := hi.2; omega, fun k h => by simp [Value.ownBlock] at h⟩)
   replace H3 := am (blk_below H3.out hb)
   clear hg hf hi g0 f0 hb H1 HB
   go_wp2_with fail
   go_loopw [9, 51] (fun v9 v51 wr => ∃ (k : Nat) (g2 f2 gr2 : Nat), k ≤ n ∧ v51 = .int .i64 k ∧ v9 = .pointer (some ⟨g2, 0, none⟩) ∧ Aside0 (Pair w wr c g f gr g2 f2 gr2) ∧ Aside0 (wr.heap[b3]? = some (.cells c.v 28 (0, 0)))) (fun v9 v51 _ => n + 1 - (intOf v51).toNat)
   case atStart => exact ⟨0, g2, f2, gr2, Nat.zero_le _, rfl, rfl, HP, H3⟩
   case round =>
    clear HP H3
    obtain ⟨k, g2, f2, gr2, hk, rfl, rfl, HP, H3⟩ := hrel
    by_cases hlt : k < n
    ·
     have p0 : (0 : Int) ≤ (k : Int) := Int.natCast_nonneg _
     have q0 : (k : Int) < (n : Int) := by omega
     obtain ⟨s, v, v2, mode, since, last, run, count, known, l, hl, h1, h2, ha⟩ := HP.out
     have H := am h1
     have HD := am h2
     have HA := am ha
     obtain ⟨ad, ⟨a, has, p, sh⟩, rfl, ht, hx0, hx1, hx2, hx3⟩ := at_tick HTS.out k hlt
     obtain ⟨t0, t1, t2, t3, t4, t5, t6, t7, t8, s', mode', since', count', known', l', hl', _, hst⟩ := told_ex c HC.out s mode since last run (mx c.band 0) c.r c.rg count known l hl a p has sh
     have HST := am hst
     have HL := am hl
     have HL2 := am hl'
     have HLT := am hlt
     have hb := h1.hb
     replace hx0 := (hb.cell (World.block_lt_of_cell? w _ hx0)).trans hx0
     replace hx1 := (hb.cell (World.block_lt_of_cell? w _ hx1)).trans hx1
     replace hx2 := (hb.cell (World.block_lt_of_cell? w _ hx2)).trans hx2
     replace hx3 := (hb.cell (World.block_lt_of_cell? w _ hx3)).trans hx3
     clear h1 h2 ha hst hl hl' HP hb ht hlt
     go_upto_region 10 with fail
     clear hx0 hx1 hx2 hx3 q0
     have n3_12 : b3 ≠ wr.heap.size := Nat.ne_of_lt (blk_lt H3.out)
     have l12 : w.heap.size ≤ wr.heap.size := H.out.hb.size
     replace H := am (H.out.alloc (.cells #[.int .i64 a, .bool has, .int .i64 p, .bool sh] 37))
     replace HD := am (HD.out.alloc (.cells #[.int .i64 a, .bool has, .int .i64 p, .bool sh] 37))
     replace H3 := am (blk_alloc H3.out (.cells #[.int .i64 a, .bool has, .int .i64 p, .bool sh] 37))
     have H12 := am (blk_new wr (.cells #[.int .i64 a, .bool has, .int .i64 p, .bool sh] 37))
     generalize wr.alloc (.cells #[.int .i64 a, .bool has, .int .i64 p, .bool sh] 37) = W1 at H HD H12 H3 ⊢
     generalize wr.heap.size = b12 at H12 l12 n3_12 ⊢
     have y12_0 := bcv H12.out 0 (.int .i64 a) rfl
     have y12_1 := bcv H12.out 1 (.bool has) rfl
     have y12_2 := bcv H12.out 2 (.int .i64 p) rfl
     have y12_3 := bcv H12.out 3 (.bool sh) rfl
     go_wp2_with fail
     refine (HST.out a p has rfl rfl rfl rfl rfl w W1 g f gr v HG.out H.out).mono ?_
     rintro e W2 ⟨v', rfl, hc, hk, ho⟩
     clear y12_0 y12_1 y12_2 y12_3
     have hbs := H.out.beside HD.out HA.out hk ho hc.hb
     replace H3 := am (blk_kept H3.out hk (H.out.out_of H3.out (by decide)))
     replace H12 := am (blk_kept H12.out hk (H.out.out_of H12.out (by decide)))
     replace H := am (hc)
     replace HD := am (hbs.1)
     replace HA := am (hbs.2)
     clear hbs hc hk ho
     go_upto_region 11 with fail
     have n3_13 : b3 ≠ W2.heap.size := Nat.ne_of_lt (blk_lt H3.out)
     have n12_13 : b12 ≠ W2.heap.size := Nat.ne_of_lt (blk_lt H12.out)
     have l13 : w.heap.size ≤ W2.heap.size := H.out.hb.size
     replace H := am (H.out.alloc (.cells #[.int .i64 t0, .bool t1, .bool t2, .bool t3, .bool t4, .bool t5, .int .i64 t6, .int .i64 t7, .int .i64 t8] 39))
     replace HD := am (HD.out.alloc (.cells #[.int .i64 t0, .bool t1, .bool t2, .bool t3, .bool t4, .bool t5, .int .i64 t6, .int .i64 t7, .int .i64 t8] 39))
     replace H3 := am (blk_alloc H3.out (.cells #[.int .i64 t0, .bool t1, .bool t2, .bool t3, .bool t4, .bool t5, .int .i64 t6, .int .i64 t7, .int .i64 t8] 39))
     replace H12 := am (blk_alloc H12.out (.cells #[.int .i64 t0, .bool t1, .bool t2, .bool t3, .bool t4, .bool t5, .int .i64 t6, .int .i64 t7, .int .i64 t8] 39))
     have H13 := am (blk_new W2 (.cells #[.int .i64 t0, .bool t1, .bool t2, .bool t3, .bool t4, .bool t5, .int .i64 t6, .int .i64 t7, .int .i64 t8] 39))
     generalize W2.alloc (.cells #[.int .i64 t0, .bool t1, .bool t2, .bool t3, .bool t4, .bool t5, .int .i64 t6, .int .i64 t7, .int .i64 t8] 39) = W3 at H HD H13 H3 H12 ⊢
     generalize W2.heap.size = b13 at H13 l13 n3_13 n12_13 ⊢
     have y12_0 := bcv H12.out 0 (.int .i64 a) rfl
     have y12_1 := bcv H12.out 1 (.bool has) rfl
     have y12_2 := bcv H12.out 2 (.int .i64 p) rfl
     have y12_3 := bcv H12.out 3 (.bool sh) rfl
     have hrb := fun W => refbrings_any W a p has sh
     generalize (if (has && good p) = true then p else 0) = pp at hrb
     obtain ⟨ok, hok⟩ : ∃ ok, ok = (has && good p) := ⟨_, rfl⟩
     rw [← hok] at hrb
     have HOK := am hok
     clear hok
     go_wp2_with fail
     refine (hrb W3).mono ?_
     rintro e W4 ⟨rfl, hb⟩
     clear hrb y12_0 y12_1 y12_2 y12_3
     replace H := am (H.out.below hb)
     replace HD := am (HD.out.below hb)
     replace H3 := am (blk_below H3.out hb)
     replace H12 := am (blk_below H12.out hb)
     replace H13 := am (blk_below H13.out hb)
     clear hb
     cases ok with
     | true =>
      have hhg := HOK.out.symm
      simp only [Bool.and_eq_true] at hhg
      obtain ⟨hhas, hgp⟩ := hhg
      subst hhas
      have HBR := am (show baro_Brings.f (atClip c a) true p sh = baro_Brings.f a true p sh by rw [brings_f, brings_f])
      clear hgp HOK
      go_upto_region 14 with fail
      have y12_0 := bcv H12.out 0 (.int .i64 a) rfl
      have f12_0 := bfz H12.out 0
      have y3_26 := bcv H3.out 26 (.int .i64 c.clip) rfl
      go_upto_region 15 with fail
      clear y12_0 f12_0 y3_26
      obtain ⟨av, hav⟩ : ∃ x, x = atClip c a := ⟨_, rfl⟩
      rw [show (if (if c.clip < a then c.clip else a) < wrap64 (-c.clip) then wrap64 (-c.clip) else (if c.clip < a then c.clip else a)) = av from hav.symm]
      generalize (if c.clip < a then c.clip else a) = mv
      rw [← hav] at HBR
      have HAV := am hav
      clear hav
      have qs0 := blk_set H12.out 0 (.int .i64 av)
      have qa := qs0.trans (show _ = some (Obj.cells #[.int .i64 av, .bool true, .int .i64 p, .bool sh] 37 (0, 0)) by kernel_rfl)
      have qk := (Kept.refl W4 (fun k => k = b12)).setCell (p := ⟨b12, 0, none⟩) (.inl rfl) (.int .i64 av)
      have qb := H.out.hb.setCell (p := ⟨b12, 0, none⟩) l12 (.int .i64 av)
      have qh := H.out.but H12.out (by decide) qk qb
      have qd := HD.out.but H12.out (by decide) qk qb
      have qo3 := blk_kept H3.out qk (show b3 ≠ b12 from n3_12)
      have qo13 := blk_kept H13.out qk (show b13 ≠ b12 from fun e => n12_13 e.symm)
      clear H HD H12 H3 H13 qs0 qk qb
      generalize W4.setCell ⟨b12, 0, none⟩ (.int .i64 av) = V1 at qa qh qd qo3 qo13 ⊢
      have H := am qh
      have HD := am qd
      have H12 := am qa
      have H3 := am qo3
      have H13 := am qo13
      clear qa qh qd qo3 qo13
      cases hcp : ((k : Int) == (wrap64 at_).tmod ((n : Int) + 1)) with
      | true =>
       go_wp2_with fail
       refine (copy_any w V1 g2 f2 gr2 s c v2 mode since last run (mx c.band 0) c.r c.rg count known l HL.out HD.out).mono ?_
       rintro e V2 ⟨g3, f3, gr3, v3, rfl, hx⟩
       have hb := hx.hb
       replace HA := am (show Apart g f gr v' g3 f3 gr3 v3 from ⟨fun e => by have := blk_lt H.out.hg; have := hx.g0; omega, fun e => by have := blk_lt H.out.hf; have := hx.f0; omega, fun e => by have := blk_lt H.out.hi.1; have := hx.hi.2; omega, fun k h1 h2 => by have := H.out.own_lt k h1; have := Kd.R_base hx.hr k h2; omega⟩)
       replace HD := am (hx.rebase H.out.hb)
       replace H := am (H.out.below hb)
       replace H3 := am (blk_below H3.out hb)
       replace H12 := am (blk_below H12.out hb)
       replace H13 := am (blk_below H13.out hb)
       clear hx hb hcp
       go_upto_region 17 with fail
       refine start_ (n := 9) (S := fun w' => w'.heap[b12]? = some (.cells #[.int .i64 av, .bool true, .int .i64 p, .bool sh] 37 (0, 0)) ∧ w'.heap[b13]? = some (.cells #[.int .i64 t0, .bool t1, .bool t2, .bool t3, .bool t4, .bool t5, .int .i64 t6, .int .i64 t7, .int .i64 t8] 39 (0, 0))) (ds := []) (flg 9 0) (by kernel_rfl) rfl rfl ⟨H12.out, H13.out⟩ (fun hHeld => ?_)
       replace H := am (H.out.drewN 1)
       replace HD := am (HD.out.drewN 1)
       replace H3 := am (blk_drew H3.out)
       replace H12 := am (blk_drew H12.out)
       replace H13 := am (blk_drew H13.out)
       change Aside0 (Chan w V2.drew _ _ _ _ _ _ _ _ _ _ _ _ _ _ _ _) at H
       change Aside0 (Chan w V2.drew _ _ _ _ _ _ _ _ _ _ _ _ _ _ _ _) at HD
       generalize V2.drew = X1 at H HD H3 H12 H13 hHeld ⊢
       refine pure_ (i := 0) (N := (some 88)) (v := ?_) (a' := ?_) (flg 9 1) rfl rfl (by kernel_rfl) (fun _ _ _ h => h) (Or.inl ⟨by rfl, ?_⟩) ?_ ?_
       rotate_left
       ·
        intro w'
        go_simp
        with_reducible rfl
       rotate_left
       ·
        simp only [pw]
        rfl
       refine pure_ (i := 1) (N := (some 89)) (v := (.bool false)) (a' := ?_) (flg 9 3) rfl rfl (by kernel_rfl) (fun _ _ _ h => h) (Or.inl ⟨by rfl, ?_⟩) ?_ ?_
       ·
        intro w'
        go_simp
        first | done | rfl
       rotate_left
       ·
        simp only [pw]
        rfl
       refine pure_ (i := 2) (N := (some 90)) (v := ?_) (a' := ?_) (flg 9 7) rfl rfl (by kernel_rfl) (fun _ _ _ h => h) (Or.inl ⟨by rfl, ?_⟩) ?_ ?_
       rotate_left
       ·
        intro w'
        go_simp
        with_reducible rfl
       rotate_left
       ·
        simp only [pw]
        rfl
       refine pure_ (i := 3) (N := (some 91)) (v := ?_) (a' := ?_) (flg 9 15) rfl rfl (by kernel_rfl) (fun _ _ _ h => h) (Or.inl ⟨by rfl, ?_⟩) ?_ ?_
       rotate_left
       ·
        intro w'
        go_simp
        with_reducible rfl
       rotate_left
       ·
        simp only [pw]
        rfl
       refine take_ (i := 4) (N := (some 92)) (v := ?_) (a' := ?_) (flg 9 31) rfl rfl (by kernel_rfl) (fun _ _ _ h => h) (Or.inl ⟨by rfl, ?_⟩) hHeld ?_ ?_
       rotate_left
       ·
        rintro w' ⟨s0, s1⟩
        have x0 := bcv s0 0 (.int .i64 av) rfl
        have x1 := bcv s0 1 (.bool true) rfl
        have x2 := bcv s0 2 (.int .i64 p) rfl
        have x3 := bcv s0 3 (.bool sh) rfl
        go_simp
        with_reducible rfl
       rotate_left
       ·
        simp only [pw]
        rfl
       refine take_ (i := 6) (N := (some 94)) (v := ?_) (a' := ?_) (flg 9 95) rfl rfl (by kernel_rfl) (fun _ _ _ h => h) (Or.inl ⟨by rfl, ?_⟩) hHeld ?_ ?_
       rotate_left
       ·
        rintro w' ⟨s0, s1⟩
        have x0 := bcv s1 0 (.int .i64 t0) rfl
        have x1 := bcv s1 1 (.bool t1) rfl
        have x2 := bcv s1 2 (.bool t2) rfl
        have x3 := bcv s1 3 (.bool t3) rfl
        have x4 := bcv s1 4 (.bool t4) rfl
        have x5 := bcv s1 5 (.bool t5) rfl
        have x6 := bcv s1 6 (.int .i64 t6) rfl
        have x7 := bcv s1 7 (.int .i64 t7) rfl
        have x8 := bcv s1 8 (.int .i64 t8) rfl
        go_simp
        with_reducible rfl
       rotate_left
       ·
        simp only [pw]
        rfl
       refine one_ (i := 5) (N := (some 93)) (flg 9 127) rfl rfl (by kernel_rfl) (by decide) (fun K hK => ?_)
       refine goes_ Tryz.func10 (by kernel_rfl) rfl #[.pointer (some ⟨g3, 0, none⟩), .agg #[.int .i64 av, .bool true, .int .i64 p, .bool sh]] (by rfl) rfl rfl (by (try simp only [List.map_toArray, List.map_cons, List.map_nil]); first | done | rfl) ?_
       refine (HST.out av  p true (by rw [HAV.out]; exact (atClip_same HC.out a last run).1) (by rw [HAV.out]; exact (atClip_same HC.out a last run).2.1) (by rw [HAV.out]; exact (atClip_same HC.out a last run).2.2.2) (by rw [HAV.out]; exact (atClip_same HC.out a last run).2.2.1) HBR.out w X1 g3 f3 gr3 v3 HG.out HD.out).mono ?_
       rintro e X2 ⟨v4, rfl, hc, hk, ho⟩
       have hbs := HD.out.beside H.out (am HA.out.symm).out hk ho hc.hb
       replace H3 := am (blk_kept H3.out hk (HD.out.out_of H3.out (by decide)))
       replace H12 := am (blk_kept H12.out hk (HD.out.out_of H12.out (by decide)))
       replace H13 := am (blk_kept H13.out hk (HD.out.out_of H13.out (by decide)))
       replace HD := am (hc)
       replace H := am (hbs.1)
       replace HA := am (hbs.2.symm)
       clear hbs hc hk ho
       clear hHeld
       refine ⟨_, rfl, ?_⟩
       refine hK.out _ _ ⟨H12.out, H13.out⟩ (fun hHeld => ?_)
       clear hK K
       refine norm_ (a' := ?_) ?_ ?_
       rotate_left
       ·
        show Act.put _ (some 93) _ = _
        simp only [pw]
        rfl
       refine pure_ (i := 7) (N := (some 95)) (v := (.bool false)) (a' := ?_) (flg 9 255) rfl rfl (by kernel_rfl) (fun _ _ _ h => h) (Or.inl ⟨by rfl, ?_⟩) ?_ ?_
       ·
        intro w'
        exact neq39 t0 t1 t2 t3 t4 t5 t6 t7 t8 (.tmp 93) (.tmp 94) rfl rfl rfl w'
       rotate_left
       ·
        simp only [pw]
        rfl
       refine pure_ (i := 8) (N := (some 96)) (v := ?_) (a' := ?_) (flg 9 511) rfl rfl (by kernel_rfl) (fun _ _ _ h => h) (Or.inl ⟨by rfl, ?_⟩) ?_ ?_
       rotate_left
       ·
        intro w'
        go_simp
        with_reducible rfl
       rotate_left
       ·
        simp only [pw]
        rfl
       refine done_ (by kernel_rfl) ?_
       have hlt := HLT.out
       go_wp2_with fail
       go_roundw
       case rel => exact ⟨k + 1, g3, f3, gr3, by omega, rfl, rfl, ⟨s', v', v4, mode', since', _, _, count', known', l', HL2.out, H.out, HD.out, HA.out⟩, H3⟩
       case measure => simp [intOf]; omega
      | false =>
       go_upto_region 17 with fail
       refine start_ (n := 9) (S := fun w' => w'.heap[b12]? = some (.cells #[.int .i64 av, .bool true, .int .i64 p, .bool sh] 37 (0, 0)) ∧ w'.heap[b13]? = some (.cells #[.int .i64 t0, .bool t1, .bool t2, .bool t3, .bool t4, .bool t5, .int .i64 t6, .int .i64 t7, .int .i64 t8] 39 (0, 0))) (ds := []) (flg 9 0) (by kernel_rfl) rfl rfl ⟨H12.out, H13.out⟩ (fun hHeld => ?_)
       replace H := am (H.out.drewN 1)
       replace HD := am (HD.out.drewN 1)
       replace H3 := am (blk_drew H3.out)
       replace H12 := am (blk_drew H12.out)
       replace H13 := am (blk_drew H13.out)
       change Aside0 (Chan w V1.drew _ _ _ _ _ _ _ _ _ _ _ _ _ _ _ _) at H
       change Aside0 (Chan w V1.drew _ _ _ _ _ _ _ _ _ _ _ _ _ _ _ _) at HD
       generalize V1.drew = X1 at H HD H3 H12 H13 hHeld ⊢
       refine pure_ (i := 0) (N := (some 88)) (v := ?_) (a' := ?_) (flg 9 1) rfl rfl (by kernel_rfl) (fun _ _ _ h => h) (Or.inl ⟨by rfl, ?_⟩) ?_ ?_
       rotate_left
       ·
        intro w'
        go_simp
        with_reducible rfl
       rotate_left
       ·
        simp only [pw]
        rfl
       refine pure_ (i := 1) (N := (some 89)) (v := (.bool false)) (a' := ?_) (flg 9 3) rfl rfl (by kernel_rfl) (fun _ _ _ h => h) (Or.inl ⟨by rfl, ?_⟩) ?_ ?_
       ·
        intro w'
        go_simp
        first | done | rfl
       rotate_left
       ·
        simp only [pw]
        rfl
       refine pure_ (i := 2) (N := (some 90)) (v := ?_) (a' := ?_) (flg 9 7) rfl rfl (by kernel_rfl) (fun _ _ _ h => h) (Or.inl ⟨by rfl, ?_⟩) ?_ ?_
       rotate_left
       ·
        intro w'
        go_simp
        with_reducible rfl
       rotate_left
       ·
        simp only [pw]
        rfl
       refine pure_ (i := 3) (N := (some 91)) (v := ?_) (a' := ?_) (flg 9 15) rfl rfl (by kernel_rfl) (fun _ _ _ h => h) (Or.inl ⟨by rfl, ?_⟩) ?_ ?_
       rotate_left
       ·
        intro w'
        go_simp
        with_reducible rfl
       rotate_left
       ·
        simp only [pw]
        rfl
       refine take_ (i := 4) (N := (some 92)) (v := ?_) (a' := ?_) (flg 9 31) rfl rfl (by kernel_rfl) (fun _ _ _ h => h) (Or.inl ⟨by rfl, ?_⟩) hHeld ?_ ?_
       rotate_left
       ·
        rintro w' ⟨s0, s1⟩
        have x0 := bcv s0 0 (.int .i64 av) rfl
        have x1 := bcv s0 1 (.bool true) rfl
        have x2 := bcv s0 2 (.int .i64 p) rfl
        have x3 := bcv s0 3 (.bool sh) rfl
        go_simp
        with_reducible rfl
       rotate_left
       ·
        simp only [pw]
        rfl
       refine take_ (i := 6) (N := (some 94)) (v := ?_) (a' := ?_) (flg 9 95) rfl rfl (by kernel_rfl) (fun _ _ _ h => h) (Or.inl ⟨by rfl, ?_⟩) hHeld ?_ ?_
       rotate_left
       ·
        rintro w' ⟨s0, s1⟩
        have x0 := bcv s1 0 (.int .i64 t0) rfl
        have x1 := bcv s1 1 (.bool t1) rfl
        have x2 := bcv s1 2 (.bool t2) rfl
        have x3 := bcv s1 3 (.bool t3) rfl
        have x4 := bcv s1 4 (.bool t4) rfl
        have x5 := bcv s1 5 (.bool t5) rfl
        have x6 := bcv s1 6 (.int .i64 t6) rfl
        have x7 := bcv s1 7 (.int .i64 t7) rfl
        have x8 := bcv s1 8 (.int .i64 t8) rfl
        go_simp
        with_reducible rfl
       rotate_left
       ·
        simp only [pw]
        rfl
       refine one_ (i := 5) (N := (some 93)) (flg 9 127) rfl rfl (by kernel_rfl) (by decide) (fun K hK => ?_)
       refine goes_ Tryz.func10 (by kernel_rfl) rfl #[.pointer (some ⟨g2, 0, none⟩), .agg #[.int .i64 av, .bool true, .int .i64 p, .bool sh]] (by rfl) rfl rfl (by (try simp only [List.map_toArray, List.map_cons, List.map_nil]); first | done | rfl) ?_
       refine (HST.out av  p true (by rw [HAV.out]; exact (atClip_same HC.out a last run).1) (by rw [HAV.out]; exact (atClip_same HC.out a last run).2.1) (by rw [HAV.out]; exact (atClip_same HC.out a last run).2.2.2) (by rw [HAV.out]; exact (atClip_same HC.out a last run).2.2.1) HBR.out w X1 g2 f2 gr2 v2 HG.out HD.out).mono ?_
       rintro e X2 ⟨v4, rfl, hc, hk, ho⟩
       have hbs := HD.out.beside H.out (am HA.out.symm).out hk ho hc.hb
       replace H3 := am (blk_kept H3.out hk (HD.out.out_of H3.out (by decide)))
       replace H12 := am (blk_kept H12.out hk (HD.out.out_of H12.out (by decide)))
       replace H13 := am (blk_kept H13.out hk (HD.out.out_of H13.out (by decide)))
       replace HD := am (hc)
       replace H := am (hbs.1)
       replace HA := am (hbs.2.symm)
       clear hbs hc hk ho
       clear hHeld
       refine ⟨_, rfl, ?_⟩
       refine hK.out _ _ ⟨H12.out, H13.out⟩ (fun hHeld => ?_)
       clear hK K
       refine norm_ (a' := ?_) ?_ ?_
       rotate_left
       ·
        show Act.put _ (some 93) _ = _
        simp only [pw]
        rfl
       refine pure_ (i := 7) (N := (some 95)) (v := (.bool false)) (a' := ?_) (flg 9 255) rfl rfl (by kernel_rfl) (fun _ _ _ h => h) (Or.inl ⟨by rfl, ?_⟩) ?_ ?_
       ·
        intro w'
        exact neq39 t0 t1 t2 t3 t4 t5 t6 t7 t8 (.tmp 93) (.tmp 94) rfl rfl rfl w'
       rotate_left
       ·
        simp only [pw]
        rfl
       refine pure_ (i := 8) (N := (some 96)) (v := ?_) (a' := ?_) (flg 9 511) rfl rfl (by kernel_rfl) (fun _ _ _ h => h) (Or.inl ⟨by rfl, ?_⟩) ?_ ?_
       rotate_left
       ·
        intro w'
        go_simp
        with_reducible rfl
       rotate_left
       ·
        simp only [pw]
        rfl
       refine done_ (by kernel_rfl) ?_
       have hlt := HLT.out
       go_wp2_with fail
       go_roundw
       case rel => exact ⟨k + 1, g2, f2, gr2, by omega, rfl, rfl, ⟨s', v', v4, mode', since', _, _, count', known', l', HL2.out, H.out, HD.out, HA.out⟩, H3⟩
       case measure => simp [intOf]; omega
     | false =>
      have HBR := am (show baro_Brings.f (atClip c a) false 0 sh = baro_Brings.f a has p sh by rw [brings_f, brings_f, ← HOK.out]; rfl)
      have y12_1 := bcv H12.out 1 (.bool has) rfl
      have f12_1 := bfz H12.out 1
      have y12_2 := bcv H12.out 2 (.int .i64 p) rfl
      have f12_2 := bfz H12.out 2
      go_upto_region 14 with fail
      clear y12_1 f12_1 y12_2 f12_2
      have qs0 := blk_set H12.out 1 (.bool false)
      have qs1 := blk_set qs0 2 (.int .i64 0)
      have qa := qs1.trans (show _ = some (Obj.cells #[.int .i64 a, .bool false, .int .i64 0, .bool sh] 37 (0, 0)) by kernel_rfl)
      have qk := ((Kept.refl W4 (fun k => k = b12)).setCell (p := ⟨b12, 1, none⟩) (.inl rfl) (.bool false)).setCell (p := ⟨b12, 2, none⟩) (.inl rfl) (.int .i64 0)
      have qb := (H.out.hb.setCell (p := ⟨b12, 1, none⟩) l12 (.bool false)).setCell (p := ⟨b12, 2, none⟩) l12 (.int .i64 0)
      have qh := H.out.but H12.out (by decide) qk qb
      have qd := HD.out.but H12.out (by decide) qk qb
      have qo3 := blk_kept H3.out qk (show b3 ≠ b12 from n3_12)
      have qo13 := blk_kept H13.out qk (show b13 ≠ b12 from fun e => n12_13 e.symm)
      clear H HD H12 H3 H13 qs0 qs1 qk qb
      generalize (W4.setCell ⟨b12, 1, none⟩ (.bool false)).setCell ⟨b12, 2, none⟩ (.int .i64 0) = W5 at qa qh qd qo3 qo13 ⊢
      have H := am qh
      have HD := am qd
      have H12 := am qa
      have H3 := am qo3
      have H13 := am qo13
      clear qa qh qd qo3 qo13
      have y12_0 := bcv H12.out 0 (.int .i64 a) rfl
      have f12_0 := bfz H12.out 0
      have y3_26 := bcv H3.out 26 (.int .i64 c.clip) rfl
      go_upto_region 15 with fail
      clear y12_0 f12_0 y3_26
      obtain ⟨av, hav⟩ : ∃ x, x = atClip c a := ⟨_, rfl⟩
      rw [show (if (if c.clip < a then c.clip else a) < wrap64 (-c.clip) then wrap64 (-c.clip) else (if c.clip < a then c.clip else a)) = av from hav.symm]
      generalize (if c.clip < a then c.clip else a) = mv
      rw [← hav] at HBR
      have HAV := am hav
      clear hav
      have qs0 := blk_set H12.out 0 (.int .i64 av)
      have qa := qs0.trans (show _ = some (Obj.cells #[.int .i64 av, .bool false, .int .i64 0, .bool sh] 37 (0, 0)) by kernel_rfl)
      have qk := (Kept.refl W5 (fun k => k = b12)).setCell (p := ⟨b12, 0, none⟩) (.inl rfl) (.int .i64 av)
      have qb := H.out.hb.setCell (p := ⟨b12, 0, none⟩) l12 (.int .i64 av)
      have qh := H.out.but H12.out (by decide) qk qb
      have qd := HD.out.but H12.out (by decide) qk qb
      have qo3 := blk_kept H3.out qk (show b3 ≠ b12 from n3_12)
      have qo13 := blk_kept H13.out qk (show b13 ≠ b12 from fun e => n12_13 e.symm)
      clear H HD H12 H3 H13 qs0 qk qb
      generalize W5.setCell ⟨b12, 0, none⟩ (.int .i64 av) = V1 at qa qh qd qo3 qo13 ⊢
      have H := am qh
      have HD := am qd
      have H12 := am qa
      have H3 := am qo3
      have H13 := am qo13
      clear qa qh qd qo3 qo13
      cases hcp : ((k : Int) == (wrap64 at_).tmod ((n : Int) + 1)) with
      | true =>
       go_wp2_with fail
       refine (copy_any w V1 g2 f2 gr2 s c v2 mode since last run (mx c.band 0) c.r c.rg count known l HL.out HD.out).mono ?_
       rintro e V2 ⟨g3, f3, gr3, v3, rfl, hx⟩
       have hb := hx.hb
       replace HA := am (show Apart g f gr v' g3 f3 gr3 v3 from ⟨fun e => by have := blk_lt H.out.hg; have := hx.g0; omega, fun e => by have := blk_lt H.out.hf; have := hx.f0; omega, fun e => by have := blk_lt H.out.hi.1; have := hx.hi.2; omega, fun k h1 h2 => by have := H.out.own_lt k h1; have := Kd.R_base hx.hr k h2; omega⟩)
       replace HD := am (hx.rebase H.out.hb)
       replace H := am (H.out.below hb)
       replace H3 := am (blk_below H3.out hb)
       replace H12 := am (blk_below H12.out hb)
       replace H13 := am (blk_below H13.out hb)
       clear hx hb hcp
       go_upto_region 17 with fail
       refine start_ (n := 9) (S := fun w' => w'.heap[b12]? = some (.cells #[.int .i64 av, .bool false, .int .i64 0, .bool sh] 37 (0, 0)) ∧ w'.heap[b13]? = some (.cells #[.int .i64 t0, .bool t1, .bool t2, .bool t3, .bool t4, .bool t5, .int .i64 t6, .int .i64 t7, .int .i64 t8] 39 (0, 0))) (ds := []) (flg 9 0) (by kernel_rfl) rfl rfl ⟨H12.out, H13.out⟩ (fun hHeld => ?_)
       replace H := am (H.out.drewN 1)
       replace HD := am (HD.out.drewN 1)
       replace H3 := am (blk_drew H3.out)
       replace H12 := am (blk_drew H12.out)
       replace H13 := am (blk_drew H13.out)
       change Aside0 (Chan w V2.drew _ _ _ _ _ _ _ _ _ _ _ _ _ _ _ _) at H
       change Aside0 (Chan w V2.drew _ _ _ _ _ _ _ _ _ _ _ _ _ _ _ _) at HD
       generalize V2.drew = X1 at H HD H3 H12 H13 hHeld ⊢
       refine pure_ (i := 0) (N := (some 88)) (v := ?_) (a' := ?_) (flg 9 1) rfl rfl (by kernel_rfl) (fun _ _ _ h => h) (Or.inl ⟨by rfl, ?_⟩) ?_ ?_
       rotate_left
       ·
        intro w'
        go_simp
        with_reducible rfl
       rotate_left
       ·
        simp only [pw]
        rfl
       refine pure_ (i := 1) (N := (some 89)) (v := (.bool false)) (a' := ?_) (flg 9 3) rfl rfl (by kernel_rfl) (fun _ _ _ h => h) (Or.inl ⟨by rfl, ?_⟩) ?_ ?_
       ·
        intro w'
        go_simp
        first | done | rfl
       rotate_left
       ·
        simp only [pw]
        rfl
       refine pure_ (i := 2) (N := (some 90)) (v := ?_) (a' := ?_) (flg 9 7) rfl rfl (by kernel_rfl) (fun _ _ _ h => h) (Or.inl ⟨by rfl, ?_⟩) ?_ ?_
       rotate_left
       ·
        intro w'
        go_simp
        with_reducible rfl
       rotate_left
       ·
        simp only [pw]
        rfl
       refine pure_ (i := 3) (N := (some 91)) (v := ?_) (a' := ?_) (flg 9 15) rfl rfl (by kernel_rfl) (fun _ _ _ h => h) (Or.inl ⟨by rfl, ?_⟩) ?_ ?_
       rotate_left
       ·
        intro w'
        go_simp
        with_reducible rfl
       rotate_left
       ·
        simp only [pw]
        rfl
       refine take_ (i := 4) (N := (some 92)) (v := ?_) (a' := ?_) (flg 9 31) rfl rfl (by kernel_rfl) (fun _ _ _ h => h) (Or.inl ⟨by rfl, ?_⟩) hHeld ?_ ?_
       rotate_left
       ·
        rintro w' ⟨s0, s1⟩
        have x0 := bcv s0 0 (.int .i64 av) rfl
        have x1 := bcv s0 1 (.bool false) rfl
        have x2 := bcv s0 2 (.int .i64 0) rfl
        have x3 := bcv s0 3 (.bool sh) rfl
        go_simp
        with_reducible rfl
       rotate_left
       ·
        simp only [pw]
        rfl
       refine take_ (i := 6) (N := (some 94)) (v := ?_) (a' := ?_) (flg 9 95) rfl rfl (by kernel_rfl) (fun _ _ _ h => h) (Or.inl ⟨by rfl, ?_⟩) hHeld ?_ ?_
       rotate_left
       ·
        rintro w' ⟨s0, s1⟩
        have x0 := bcv s1 0 (.int .i64 t0) rfl
        have x1 := bcv s1 1 (.bool t1) rfl
        have x2 := bcv s1 2 (.bool t2) rfl
        have x3 := bcv s1 3 (.bool t3) rfl
        have x4 := bcv s1 4 (.bool t4) rfl
        have x5 := bcv s1 5 (.bool t5) rfl
        have x6 := bcv s1 6 (.int .i64 t6) rfl
        have x7 := bcv s1 7 (.int .i64 t7) rfl
        have x8 := bcv s1 8 (.int .i64 t8) rfl
        go_simp
        with_reducible rfl
       rotate_left
       ·
        simp only [pw]
        rfl
       refine one_ (i := 5) (N := (some 93)) (flg 9 127) rfl rfl (by kernel_rfl) (by decide) (fun K hK => ?_)
       refine goes_ Tryz.func10 (by kernel_rfl) rfl #[.pointer (some ⟨g3, 0, none⟩), .agg #[.int .i64 av, .bool false, .int .i64 0, .bool sh]] (by rfl) rfl rfl (by (try simp only [List.map_toArray, List.map_cons, List.map_nil]); first | done | rfl) ?_
       refine (HST.out av  0 false (by rw [HAV.out]; exact (atClip_same HC.out a last run).1) (by rw [HAV.out]; exact (atClip_same HC.out a last run).2.1) (by rw [HAV.out]; exact (atClip_same HC.out a last run).2.2.2) (by rw [HAV.out]; exact (atClip_same HC.out a last run).2.2.1) HBR.out w X1 g3 f3 gr3 v3 HG.out HD.out).mono ?_
       rintro e X2 ⟨v4, rfl, hc, hk, ho⟩
       have hbs := HD.out.beside H.out (am HA.out.symm).out hk ho hc.hb
       replace H3 := am (blk_kept H3.out hk (HD.out.out_of H3.out (by decide)))
       replace H12 := am (blk_kept H12.out hk (HD.out.out_of H12.out (by decide)))
       replace H13 := am (blk_kept H13.out hk (HD.out.out_of H13.out (by decide)))
       replace HD := am (hc)
       replace H := am (hbs.1)
       replace HA := am (hbs.2.symm)
       clear hbs hc hk ho
       clear hHeld
       refine ⟨_, rfl, ?_⟩
       refine hK.out _ _ ⟨H12.out, H13.out⟩ (fun hHeld => ?_)
       clear hK K
       refine norm_ (a' := ?_) ?_ ?_
       rotate_left
       ·
        show Act.put _ (some 93) _ = _
        simp only [pw]
        rfl
       refine pure_ (i := 7) (N := (some 95)) (v := (.bool false)) (a' := ?_) (flg 9 255) rfl rfl (by kernel_rfl) (fun _ _ _ h => h) (Or.inl ⟨by rfl, ?_⟩) ?_ ?_
       ·
        intro w'
        exact neq39 t0 t1 t2 t3 t4 t5 t6 t7 t8 (.tmp 93) (.tmp 94) rfl rfl rfl w'
       rotate_left
       ·
        simp only [pw]
        rfl
       refine pure_ (i := 8) (N := (some 96)) (v := ?_) (a' := ?_) (flg 9 511) rfl rfl (by kernel_rfl) (fun _ _ _ h => h) (Or.inl ⟨by rfl, ?_⟩) ?_ ?_
       rotate_left
       ·
        intro w'
        go_simp
        with_reducible rfl
       rotate_left
       ·
        simp only [pw]
        rfl
       refine done_ (by kernel_rfl) ?_
       have hlt := HLT.out
       go_wp2_with fail
       go_roundw
       case rel => exact ⟨k + 1, g3, f3, gr3, by omega, rfl, rfl, ⟨s', v', v4, mode', since', _, _, count', known', l', HL2.out, H.out, HD.out, HA.out⟩, H3⟩
       case measure => simp [intOf]; omega
      | false =>
       go_upto_region 17 with fail
       refine start_ (n := 9) (S := fun w' => w'.heap[b12]? = some (.cells #[.int .i64 av, .bool false, .int .i64 0, .bool sh] 37 (0, 0)) ∧ w'.heap[b13]? = some (.cells #[.int .i64 t0, .bool t1, .bool t2, .bool t3, .bool t4, .bool t5, .int .i64 t6, .int .i64 t7, .int .i64 t8] 39 (0, 0))) (ds := []) (flg 9 0) (by kernel_rfl) rfl rfl ⟨H12.out, H13.out⟩ (fun hHeld => ?_)
       replace H := am (H.out.drewN 1)
       replace HD := am (HD.out.drewN 1)
       replace H3 := am (blk_drew H3.out)
       replace H12 := am (blk_drew H12.out)
       replace H13 := am (blk_drew H13.out)
       change Aside0 (Chan w V1.drew _ _ _ _ _ _ _ _ _ _ _ _ _ _ _ _) at H
       change Aside0 (Chan w V1.drew _ _ _ _ _ _ _ _ _ _ _ _ _ _ _ _) at HD
       generalize V1.drew = X1 at H HD H3 H12 H13 hHeld ⊢
       refine pure_ (i := 0) (N := (some 88)) (v := ?_) (a' := ?_) (flg 9 1) rfl rfl (by kernel_rfl) (fun _ _ _ h => h) (Or.inl ⟨by rfl, ?_⟩) ?_ ?_
       rotate_left
       ·
        intro w'
        go_simp
        with_reducible rfl
       rotate_left
       ·
        simp only [pw]
        rfl
       refine pure_ (i := 1) (N := (some 89)) (v := (.bool false)) (a' := ?_) (flg 9 3) rfl rfl (by kernel_rfl) (fun _ _ _ h => h) (Or.inl ⟨by rfl, ?_⟩) ?_ ?_
       ·
        intro w'
        go_simp
        first | done | rfl
       rotate_left
       ·
        simp only [pw]
        rfl
       refine pure_ (i := 2) (N := (some 90)) (v := ?_) (a' := ?_) (flg 9 7) rfl rfl (by kernel_rfl) (fun _ _ _ h => h) (Or.inl ⟨by rfl, ?_⟩) ?_ ?_
       rotate_left
       ·
        intro w'
        go_simp
        with_reducible rfl
       rotate_left
       ·
        simp only [pw]
        rfl
       refine pure_ (i := 3) (N := (some 91)) (v := ?_) (a' := ?_) (flg 9 15) rfl rfl (by kernel_rfl) (fun _ _ _ h => h) (Or.inl ⟨by rfl, ?_⟩) ?_ ?_
       rotate_left
       ·
        intro w'
        go_simp
        with_reducible rfl
       rotate_left
       ·
        simp only [pw]
        rfl
       refine take_ (i := 4) (N := (some 92)) (v := ?_) (a' := ?_) (flg 9 31) rfl rfl (by kernel_rfl) (fun _ _ _ h => h) (Or.inl ⟨by rfl, ?_⟩) hHeld ?_ ?_
       rotate_left
       ·
        rintro w' ⟨s0, s1⟩
        have x0 := bcv s0 0 (.int .i64 av) rfl
        have x1 := bcv s0 1 (.bool false) rfl
        have x2 := bcv s0 2 (.int .i64 0) rfl
        have x3 := bcv s0 3 (.bool sh) rfl
        go_simp
        with_reducible rfl
       rotate_left
       ·
        simp only [pw]
        rfl
       refine take_ (i := 6) (N := (some 94)) (v := ?_) (a' := ?_) (flg 9 95) rfl rfl (by kernel_rfl) (fun _ _ _ h => h) (Or.inl ⟨by rfl, ?_⟩) hHeld ?_ ?_
       rotate_left
       ·
        rintro w' ⟨s0, s1⟩
        have x0 := bcv s1 0 (.int .i64 t0) rfl
        have x1 := bcv s1 1 (.bool t1) rfl
        have x2 := bcv s1 2 (.bool t2) rfl
        have x3 := bcv s1 3 (.bool t3) rfl
        have x4 := bcv s1 4 (.bool t4) rfl
        have x5 := bcv s1 5 (.bool t5) rfl
        have x6 := bcv s1 6 (.int .i64 t6) rfl
        have x7 := bcv s1 7 (.int .i64 t7) rfl
        have x8 := bcv s1 8 (.int .i64 t8) rfl
        go_simp
        with_reducible rfl
       rotate_left
       ·
        simp only [pw]
        rfl
       refine one_ (i := 5) (N := (some 93)) (flg 9 127) rfl rfl (by kernel_rfl) (by decide) (fun K hK => ?_)
       refine goes_ Tryz.func10 (by kernel_rfl) rfl #[.pointer (some ⟨g2, 0, none⟩), .agg #[.int .i64 av, .bool false, .int .i64 0, .bool sh]] (by rfl) rfl rfl (by (try simp only [List.map_toArray, List.map_cons, List.map_nil]); first | done | rfl) ?_
       refine (HST.out av  0 false (by rw [HAV.out]; exact (atClip_same HC.out a last run).1) (by rw [HAV.out]; exact (atClip_same HC.out a last run).2.1) (by rw [HAV.out]; exact (atClip_same HC.out a last run).2.2.2) (by rw [HAV.out]; exact (atClip_same HC.out a last run).2.2.1) HBR.out w X1 g2 f2 gr2 v2 HG.out HD.out).mono ?_
       rintro e X2 ⟨v4, rfl, hc, hk, ho⟩
       have hbs := HD.out.beside H.out (am HA.out.symm).out hk ho hc.hb
       replace H3 := am (blk_kept H3.out hk (HD.out.out_of H3.out (by decide)))
       replace H12 := am (blk_kept H12.out hk (HD.out.out_of H12.out (by decide)))
       replace H13 := am (blk_kept H13.out hk (HD.out.out_of H13.out (by decide)))
       replace HD := am (hc)
       replace H := am (hbs.1)
       replace HA := am (hbs.2.symm)
       clear hbs hc hk ho
       clear hHeld
       refine ⟨_, rfl, ?_⟩
       refine hK.out _ _ ⟨H12.out, H13.out⟩ (fun hHeld => ?_)
       clear hK K
       refine norm_ (a' := ?_) ?_ ?_
       rotate_left
       ·
        show Act.put _ (some 93) _ = _
        simp only [pw]
        rfl
       refine pure_ (i := 7) (N := (some 95)) (v := (.bool false)) (a' := ?_) (flg 9 255) rfl rfl (by kernel_rfl) (fun _ _ _ h => h) (Or.inl ⟨by rfl, ?_⟩) ?_ ?_
       ·
        intro w'
        exact neq39 t0 t1 t2 t3 t4 t5 t6 t7 t8 (.tmp 93) (.tmp 94) rfl rfl rfl w'
       rotate_left
       ·
        simp only [pw]
        rfl
       refine pure_ (i := 8) (N := (some 96)) (v := ?_) (a' := ?_) (flg 9 511) rfl rfl (by kernel_rfl) (fun _ _ _ h => h) (Or.inl ⟨by rfl, ?_⟩) ?_ ?_
       rotate_left
       ·
        intro w'
        go_simp
        with_reducible rfl
       rotate_left
       ·
        simp only [pw]
        rfl
       refine done_ (by kernel_rfl) ?_
       have hlt := HLT.out
       go_wp2_with fail
       go_roundw
       case rel => exact ⟨k + 1, g2, f2, gr2, by omega, rfl, rfl, ⟨s', v', v4, mode', since', _, _, count', known', l', HL2.out, H.out, HD.out, HA.out⟩, H3⟩
       case measure => simp [intOf]; omega
    ·
     have h9 : k = n := by omega
     subst h9
     have q0 : decide ((k : Int) < (k : Int)) = false := decide_eq_false (by omega)
     obtain ⟨s, v, v2, mode, since, last, run, count, known, l, hl, h1, h2, ha⟩ := HP.out
     have HB := am h1.hb
     clear h1 h2 ha hl
     go_wp2_with fail
     refine (fixed_any wr (HG.out.below HB.out)).mono ?_
     rintro e w3 ⟨rfl, hb⟩
     go_wp2_with fail
     go_ret
     exact ⟨rfl, below_step HB.out hb⟩
 ·
  have qa : (ck == 0) = false := by simp [hc]
  have qb : decide (ck = 0) = false := decide_eq_false hc
  have qc : (ck != 0) = true := by simp [hc]
  clear hc hck
  go_wp2_with fail
  refine (fixed_any w2 (HG.out.below HB.out)).mono ?_
  rintro e w3 ⟨rfl, hb⟩
  go_wp2_with fail
  go_ret
  exact ⟨rfl, below_step HB.out hb⟩
end Go.Proofs.YtpdahkgandaabaaGreatDoor.Ch
