/- A part of the proof of TopAgain, where the package's tables hold what their initialisers lay. -/
import Derived.ChangeKeysEq
import Derived.Test.YtpdahkgandaabaaGreatDoorT01
import Derived.Test.YtpdahkgandaabaaGreatDoorT20
import Derived.Test.YtpdahkgandaabaaGreatDoorT22
import Derived.Test.YtpdahkgandaabaaGreatDoorT26
namespace Go.Proofs.YtpdahkgandaabaaGreatDoor.Ch
open Go.RowKit Go.Proofs.YtpdahkgandaabaaGreatDoorW.PrintWords Go.Proofs.YtpdahkgandaabaaGreatDoorW.PrintLast Go.Proofs.YtpdahkgandaabaaGreatDoorW.PrintMore Go.Proofs.YtpdahkgandaabaaGreatDoor.PTopNames Go.Proofs.YtpdahkgandaabaaGreatDoor.Al
set_option linter.unusedVariables false
set_option linter.unusedSimpArgs false
theorem refgood_any (w : World) (p : Int) : Calls Tryz.prog 8 #[p] w fun e w' => e = .returned (.bool (good p)) ∧ Below w.heap.size w w' := Bg.rgood_any w p
theorem ralt_any (w : World) (c : Int) : Calls Tryz.prog 12 #[c] w fun e w' => e = .returned (.tuple #[.int .i64 (if good c then alt c else 0), .int .i64 (if good c then 0 else 2)]) ∧ Below w.heap.size w w' := Bg.ralt_any w c
def Any (w W : World) (c : Cf) (g f gr : Nat) (j K : Int) : Prop := ∃ (s : Gs) (v : Value) (mode since last run count : Int) (known : Bool) (l : List Int), l.length ≤ 15 ∧ (mode = 0 ∨ mode = 1 ∨ mode = 2 ∨ mode = 3) ∧ j ≤ run ∧ run ≤ K ∧
 Chan w W g f gr s c v mode since last run (mx c.band 0) c.r c.rg count known l
theorem run_any {c : Cf} {run a K : Int} (h0 : 0 ≤ run) (h1 : run ≤ K) (h2 : K ≤ 1000000) : 0 ≤ inRun c run a ∧ inRun c run a ≤ K + 1 := by
 unfold inRun
 split
 ·
  have : wrap64 (run + 1) = run + 1 := by unfold wrap64; omega
  omega
 omega
theorem clip_clip (c : Cf) : clipped c c.clip = true := by simp [clipped]
theorem clip_neg {c : Cf} (h : checkR c = 0) : clipped c (wrap64 (-c.clip)) = true := by simp [clipped]
theorem rest_in {c : Cf} (h : checkR c = 0) : clipped c c.rest = false := by
 have hc := clip_ok h
 have hw : wrap64 (-c.clip) = -c.clip := by unfold wrap64; omega
 unfold clipped
 rw [hw, decide_eq_false (by omega), decide_eq_false (by omega)]
 rfl
theorem run_clip {c : Cf} {run K : Int} (a : Int) (ha : clipped c a = true) (h0 : 0 ≤ run) (h1 : run ≤ K) (h2 : K ≤ 1000000) : inRun c run a = run + 1 := by
 have : wrap64 (run + 1) = run + 1 := by unfold wrap64; omega
 rw [inRun, ha, if_pos rfl, this]
theorem lost_clip {c : Cf} {run K : Int} (a : Int) (ha : clipped c a = true) (h0 : c.hold ≤ run) (hp : 0 ≤ run) (h1 : run ≤ K) (h2 : K ≤ 1000000) : inLost c run a = true := by
 have : wrap64 (run + 1) = run + 1 := by unfold wrap64; omega
 rw [inLost, ha, this, decide_eq_true (by omega)]
 rfl
set_option maxRecDepth 100000 in
theorem index16 (cn : Nat → Int) {k : Nat} (h : k < 16) (w : World) : (Instr.index 30 (.agg #[.int .i64 (cn 0), .int .i64 (cn 1), .int .i64 (cn 2), .int .i64 (cn 3), .int .i64 (cn 4), .int .i64 (cn 5), .int .i64 (cn 6), .int .i64 (cn 7), .int .i64 (cn 8), .int .i64 (cn 9), .int .i64 (cn 10), .int .i64 (cn 11), .int .i64 (cn 12), .int .i64 (cn 13), .int .i64 (cn 14), .int .i64 (cn 15)]) (.int .i64 (k : Int))).run Tryz.prog w = .ok (.int .i64 (cn k)) w := by
 have hk : k = 0 ∨ k = 1 ∨ k = 2 ∨ k = 3 ∨ k = 4 ∨ k = 5 ∨ k = 6 ∨ k = 7 ∨ k = 8 ∨ k = 9 ∨ k = 10 ∨ k = 11 ∨ k = 12 ∨ k = 13 ∨ k = 14 ∨ k = 15 := by omega
 rcases hk with rfl | rfl | rfl | rfl | rfl | rfl | rfl | rfl | rfl | rfl | rfl | rfl | rfl | rfl | rfl | rfl
 all_goals rfl
def Back (w W : World) (c : Cf) (g f gr : Nat) (cn : Nat → Int) (i : Nat) : Prop := ∃ (s : Gs) (v : Value) (last run count : Int) (known : Bool), Chan w W g f gr s c v 3 0 last run (mx c.band 0) c.r c.rg count known ((List.range i).map cn)
def Done (w W : World) (c : Cf) (g f gr : Nat) (z : Int) : Prop := ∃ (v : Value) (last run count : Int) (known : Bool), Chan w W g f gr ⟨z, 0, 0, c.s0, 0, 0, c.s1, 0, c.s2⟩ c v 1 0 last run (mx c.band 0) c.r c.rg count known []
theorem eq_ints (w : World) (xs : Array Value) : ∀ is : List Nat, (∀ i, i ∈ is → ∃ n : Int, xs[i]? = some (.int .i64 n)) → (Op.eqItems 9999 2 1 xs xs is).run Tryz.prog w = .ok true w
 | [], _ => by simp [Op.eqItems]
 | i :: is, h => by
  obtain ⟨n, hn⟩ := h i (by simp)
  have p : (part 2 xs i).run Tryz.prog w = .ok (.int .i64 n) w := by
   unfold part isAgg
   simp only [Sem.run_bind, run_underlying Tryz.underlying2, Result.andThen_ok]
   simp [hn]
  have q : ∀ d, (Op.equalIn (d + 1) 2 (.int .i64 n) (.int .i64 n)).run Tryz.prog w = .ok true w := fun d => by
   simp only [Op.equalIn, Sem.run_bind, run_underlying Tryz.underlying2, Result.andThen_ok, beq_self_eq_true]
   rfl
  have q := q 9998
  simp only [Op.eqItems, Sem.run_bind, Nat.mul_one, p, q, Result.andThen_ok]
  simpa using eq_ints w xs is (fun j hj => h j (by simp [hj]))
theorem eq_agg {t : TypeId} {n : Nat} (w : World) (xs : Array Value) (hu : Tryz.prog.underlying t = some (.array n 2)) (h : ∀ i, i < n → ∃ k : Int, xs[i]? = some (.int .i64 k)) : (Op.equalIn (9999 + 1) t (.agg xs) (.agg xs)).run Tryz.prog w = .ok true w := by
 obtain ⟨i, hi⟩ := info_of_underlying Tryz.underlying2
 have hc : Tryz.prog.cellsOf 2 = 1 := by kernel_rfl
 have e : (Op.equalIn (9999 + 1) t (.agg xs) (.agg xs)).run Tryz.prog w = _ := run_equalIn_array (P := Tryz.prog) (w := w) 9999 _ _ hu hi
 rw [e, hc]
 exact eq_ints w xs _ (fun i hi => h i (List.mem_range.1 hi))
theorem eql26v (z : Int) (w : World) : (Op.equalIn 10000 26 (.agg #[z, (), ()]) (.agg #[z, (), ()])).run Tryz.prog w = .ok true w :=
 eq_agg w _ Tryz.underlying26 (fun i hi => by
  have : i = 0 ∨ i = 1 ∨ i = 2 := by omega
  rcases this with rfl | rfl | rfl <;> exact ⟨_, rfl⟩)
theorem eql46v (p q r : Int) (w : World) : (Op.equalIn 10000 46 (.agg #[p, (), (), q, (), r]) (.agg #[p, (), (), q, (), r])).run Tryz.prog w = .ok true w :=
 eq_agg w _ Tryz.underlying46 (fun i hi => by
  have : i = 0 ∨ i = 1 ∨ i = 2 ∨ i = 3 ∨ i = 4 ∨ i = 5 := by omega
  rcases this with rfl | rfl | rfl | rfl | rfl | rfl <;> exact ⟨_, rfl⟩)
theorem eql26 {op : Oper} {a : Act} (z : Int) (x y : Operand) (ho : op.op = .binOp .eql 26 x y 26) (hx : a.eval x = .agg #[z, (), ()]) (hy : a.eval y = .agg #[z, (), ()]) (w : World) : (execOp a.eval op).run Tryz.prog w = .ok (.value (.bool true)) w := by
 unfold execOp
 simp only [ho, hx, hy]
 simp [go_sem, eql26v]
theorem eql46 {op : Oper} {a : Act} (p q r : Int) (x y : Operand) (ho : op.op = .binOp .eql 46 x y 46) (hx : a.eval x = .agg #[p, (), (), q, (), r]) (hy : a.eval y = .agg #[p, (), (), q, (), r]) (w : World) : (execOp a.eval op).run Tryz.prog w = .ok (.value (.bool true)) w := by
 unfold execOp
 simp only [ho, hx, hy]
 simp [go_sem, eql46v]
theorem row16 {w : World} {b : Nat} {cn : Nat → Int} (h : w.heap[b]? = some (.cells #[.int .i64 (cn 0), .int .i64 (cn 1), .int .i64 (cn 2), .int .i64 (cn 3), .int .i64 (cn 4), .int .i64 (cn 5), .int .i64 (cn 6), .int .i64 (cn 7), .int .i64 (cn 8), .int .i64 (cn 9), .int .i64 (cn 10), .int .i64 (cn 11), .int .i64 (cn 12), .int .i64 (cn 13), .int .i64 (cn 14), .int .i64 (cn 15)] 30 (0, 0))) : Kd.C (Kd.int .i64) w (some ⟨b, 0, none⟩) 16 ((List.range 16).map cn) := by
 refine ⟨by simp, by omega, fun _ => ⟨_, rfl, fun j p hj => ?_⟩⟩
 have hlt : j < 16 := by have := (List.getElem?_eq_some_iff.1 hj).1; simpa using this
 have e : p = cn j := by simp [hlt] at hj; exact hj.symm
 subst e
 refine ⟨[.int .i64 (cn j)], rfl, rfl, fun q u hu => ?_⟩
 have hq : q = 0 := by have := (List.getElem?_eq_some_iff.1 hu).1; simp at this; exact this
 subst hq
 obtain rfl : Value.int .i64 (cn j) = u := by simpa using hu
 have hk : j = 0 ∨ j = 1 ∨ j = 2 ∨ j = 3 ∨ j = 4 ∨ j = 5 ∨ j = 6 ∨ j = 7 ∨ j = 8 ∨ j = 9 ∨ j = 10 ∨ j = 11 ∨ j = 12 ∨ j = 13 ∨ j = 14 ∨ j = 15 := by omega
 rcases hk with rfl | rfl | rfl | rfl | rfl | rfl | rfl | rfl | rfl | rfl | rfl | rfl | rfl | rfl | rfl | rfl
 all_goals exact (blk_cell h _).trans rfl
theorem step_fall (w0 w : World) (hG : G w0) (g f gr : Nat) (s : Gs) (c : Cf) (v : Value) (mode since last run band noise rough count : Int) (known : Bool) (l : List Int) (a p : Int) (has sh : Bool)
  (h : Chan w0 w g f gr s c v mode since last run band noise rough count known l) (hl : l.length ≤ 15) (hck : checkR c = 0) (hm : mode = 0 ∨ mode = 1 ∨ mode = 2 ∨ mode = 3) (hcl : clipped c a = true) (hlo : inLost c run a = true) :
  Calls Tryz.prog 10 #[.pointer (some ⟨g, 0, none⟩), .agg #[a, .bool has, p, .bool sh]] w fun e w' => ∃ v', e = .returned (.agg (toldV 3 false false false true false 0 0 0)) ∧ Chan w0 w' g f gr s c v' 3 0 (inT c last a) (inRun c run a) band noise rough count known [] ∧ Kept w w' (fun k => k = g ∨ k = f ∨ k = gr ∨ v.ownBlock = some k) ∧ OwT w v v' := by
 obtain ⟨al, h0⟩ := out_tells s.x0
 obtain ⟨sp, h1⟩ := out_tells s.x1
 obtain ⟨bi, h2⟩ := out_tells s.x2
 refine (step_any c hck s mode since last run band noise rough count known l hl a p has sh _ _ _ true true _ ⟨3, false, false, false, s, count, known, l⟩ 3 0 al sp bi rfl rfl hcl hlo (brings_f a p has sh)
  ⟨fun _ => rfl, nofun, nofun, nofun, nofun⟩ (on_fall hm) h0 h1 h2 w0 w g f gr v hG h).mono ?_
 rintro e w' ⟨v', rfl, hc, hk, ho⟩
 exact ⟨v', rfl, hc, hk, ho⟩
theorem Chan.outof {w0 W : World} {g f gr : Nat} {s : Gs} {c : Cf} {v : Value} {mode since last run band noise rough count : Int} {known : Bool} {l : List Int} (h : Chan w0 W g f gr s c v mode since last run band noise rough count known l) {b : Nat} {cs : Array Value} {t : TypeId} (hb : W.heap[b]? = some (.cells cs t (0, 0)))
  (ht : t ≠ 56 ∧ t ≠ 101 ∧ t ≠ 93 ∧ t ≠ 2) : ¬ (b = g ∨ b = f ∨ b = gr ∨ v.ownBlock = some b) := fun e => by
 rcases e with e | e | e | e
 ·
  exact blk_ne hb h.hg ht.1 e
 ·
  exact blk_ne hb h.hf ht.2.1 e
 ·
  exact (h.hi.ne_blk hb ht.2.2.1) e.symm
 exact (Kd.R_ne h.hr hb (fun e => ht.2.2.2 e.symm)) e.symm
set_option maxRecDepth 100000 in
set_option maxHeartbeats 8000000 in
theorem again_any (w : World) (hG : G w) (c : Cf) (A : Option Addr) (n cap : Nat) (ts : List T4) (hts : ReadsRow (fun t c => c = cellsT t) 4 w A n ts) (cn : Nat → Int) :
  Calls Tryz.prog 4 #[.agg c.v, .slice A n cap, .agg #[.int .i64 (cn 0), .int .i64 (cn 1), .int .i64 (cn 2), .int .i64 (cn 3), .int .i64 (cn 4), .int .i64 (cn 5), .int .i64 (cn 6), .int .i64 (cn 7), .int .i64 (cn 8), .int .i64 (cn 9), .int .i64 (cn 10), .int .i64 (cn 11), .int .i64 (cn 12), .int .i64 (cn 13), .int .i64 (cn 14), .int .i64 (cn 15)]] w fun e w' => e = .returned (.bool true) ∧ Below w.heap.size w w' := by
 have HG := am hG
 have HTS := am hts
 clear hG hts
 have hnil : ∀ (g : Nat) (w : World), (binOp .eql 33 (.pointer (some ⟨g, 0, none⟩)) (.pointer none)).run Tryz.prog w = .ok (.bool false) w := fun _ _ => by first | rfl | (simp [go_sem]; done)
 obtain ⟨x3, x5, hB⟩ := blocks2 w c.v #[.int .i64 (cn 0), .int .i64 (cn 1), .int .i64 (cn 2), .int .i64 (cn 3), .int .i64 (cn 4), .int .i64 (cn 5), .int .i64 (cn 6), .int .i64 (cn 7), .int .i64 (cn 8), .int .i64 (cn 9), .int .i64 (cn 10), .int .i64 (cn 11), .int .i64 (cn 12), .int .i64 (cn 13), .int .i64 (cn 14), .int .i64 (cn 15)] 28 30
 go_enter Tryz.func4, Tryz.ntmps4
 go_upto_region 1 with fail
 generalize (w.alloc (.cells c.v 28)).alloc (.cells #[.int .i64 (cn 0), .int .i64 (cn 1), .int .i64 (cn 2), .int .i64 (cn 3), .int .i64 (cn 4), .int .i64 (cn 5), .int .i64 (cn 6), .int .i64 (cn 7), .int .i64 (cn 8), .int .i64 (cn 9), .int .i64 (cn 10), .int .i64 (cn 11), .int .i64 (cn 12), .int .i64 (cn 13), .int .i64 (cn 14), .int .i64 (cn 15)] 30) = w1 at x3 x5 hB ⊢
 obtain ⟨b3, hb3⟩ := e_x (w.heap.size)
 obtain ⟨b5, hb5⟩ := e_x (w.heap.size + 1)
 have l3 : w.heap.size ≤ b3 := by omega
 have l5 : w.heap.size ≤ b5 := by omega
 rw [← hb5, ← hb3]
 rw [← hb5] at x5
 rw [← hb3] at x3
 clear hb3 hb5
 have H3 := am x3
 have H5 := am x5
 have HB := am hB
 clear x3 x5 hB
 iterate 2 go_step
 refine wp_load_row 28 (.tmp 3) rfl b3 rfl 28 c.v (0, 0) _ H3.out Tryz.underlying28 rfl (by kernel_rfl) ?_
 go_wp2_with fail
 refine (check_any w1 c).mono ?_
 rintro e w2 ⟨rfl, hb⟩
 replace H3 := b_b H3 hb
 replace H5 := b_b H5 hb
 replace HB := b_s HB hb
 clear hb
 obtain ⟨ck, hck⟩ : ∃ k, k = checkR c := ⟨_, rfl⟩
 rw [← hck]
 by_cases hc : ck = 0
 ·
  subst hc
  have HC := am hck.symm
  clear hck
  by_cases hn : 300 < n
  ·
   have qn : decide ((300 : Int) < (n : Int)) = true := decide_eq_true (by omega)
   go_wp2_with fail
   refine (fixed_any w2 (HG.out.below HB.out)).mono ?_
   rintro e w9 ⟨rfl, hb⟩
   go_wp2_with fail
   go_ret
   exact ⟨rfl, below_step HB.out hb⟩
  have qn : decide ((300 : Int) < (n : Int)) = false := decide_eq_false (by omega)
  go_upto_region 3 with fail
  clear qn
  have y5_0 := b_v H5 0 (.int .i64 (cn 0)) rfl
  have y5_1 := b_v H5 1 (.int .i64 (cn 1)) rfl
  have y5_2 := b_v H5 2 (.int .i64 (cn 2)) rfl
  have y5_3 := b_v H5 3 (.int .i64 (cn 3)) rfl
  have y5_4 := b_v H5 4 (.int .i64 (cn 4)) rfl
  have y5_5 := b_v H5 5 (.int .i64 (cn 5)) rfl
  have y5_6 := b_v H5 6 (.int .i64 (cn 6)) rfl
  have y5_7 := b_v H5 7 (.int .i64 (cn 7)) rfl
  have y5_8 := b_v H5 8 (.int .i64 (cn 8)) rfl
  have y5_9 := b_v H5 9 (.int .i64 (cn 9)) rfl
  have y5_10 := b_v H5 10 (.int .i64 (cn 10)) rfl
  have y5_11 := b_v H5 11 (.int .i64 (cn 11)) rfl
  have y5_12 := b_v H5 12 (.int .i64 (cn 12)) rfl
  have y5_13 := b_v H5 13 (.int .i64 (cn 13)) rfl
  have y5_14 := b_v H5 14 (.int .i64 (cn 14)) rfl
  have y5_15 := b_v H5 15 (.int .i64 (cn 15)) rfl
  go_wp2_with fail
  clear y5_0 y5_1 y5_2 y5_3 y5_4 y5_5 y5_6 y5_7 y5_8 y5_9 y5_10 y5_11 y5_12 y5_13 y5_14 y5_15
  go_loopw [35] (fun v35 wr => ∃ k : Nat, k ≤ 16 ∧ v35 = .int .i64 k ∧ (∀ i, i < k → good (cn i) = true) ∧ Aside0 (wr.heap[b3]? = some (.cells c.v 28 (0, 0))) ∧ Aside0 (wr.heap[b5]? = some (.cells #[.int .i64 (cn 0), .int .i64 (cn 1), .int .i64 (cn 2), .int .i64 (cn 3), .int .i64 (cn 4), .int .i64 (cn 5), .int .i64 (cn 6), .int .i64 (cn 7), .int .i64 (cn 8), .int .i64 (cn 9), .int .i64 (cn 10), .int .i64 (cn 11), .int .i64 (cn 12), .int .i64 (cn 13), .int .i64 (cn 14), .int .i64 (cn 15)] 30 (0, 0))) ∧ Aside0 (Below w.heap.size w wr)) (fun v35 _ => 17 - (intOf v35).toNat)
  case atStart => exact ⟨0, by omega, rfl, fun i hi => absurd hi (Nat.not_lt_zero _), H3, H5, HB⟩
  case round =>
   clear H3 H5 HB
   obtain ⟨k, hk, rfl, hgd, H3, H5, HB⟩ := hrel
   have HGD := am hgd
   clear hgd
   by_cases hlt : k < 16
   ·
    have q0 : decide ((k : Int) < 16) = true := decide_eq_true (by omega)
    have ik := index16 cn hlt
    go_wp2_with fail
    refine (refgood_any wr (cn k)).mono ?_
    rintro e w3 ⟨rfl, hb⟩
    replace H3 := b_b H3 hb
    replace H5 := b_b H5 hb
    replace HB := b_s HB hb
    clear hb ik
    cases hg : good (cn k) with
    | false =>
     go_wp2_with fail
     refine (fixed_any w3 (HG.out.below HB.out)).mono ?_
     rintro e w9 ⟨rfl, hb⟩
     go_wp2_with fail
     go_ret
     exact ⟨rfl, below_step HB.out hb⟩
    | true =>
     go_wp2_with fail
     go_roundw
     case rel => exact ⟨k + 1, by omega, rfl, fun i hi => by
      rcases Nat.lt_or_eq_of_le (Nat.lt_succ_iff.1 hi) with h | h
      ·
       exact HGD.out i h
      rw [h]; exact hg, H3, H5, HB⟩
     case measure => simp [intOf]; omega
   have h16 : k = 16 := by omega
   subst h16
   have hc16 : ((16 : Nat) : Int) = 16 := rfl
   clear hlt hk
   go_upto_region 9 with fail
   clear hc16
   iterate 2 go_step
   refine wp_load_row 28 (.tmp 3) rfl b3 rfl 28 c.v (0, 0) _ H3.out Tryz.underlying28 rfl (by kernel_rfl) ?_
   go_wp2_with fail
   refine (new_any wr c HC.out).mono ?_
   rintro e w4 ⟨g, f, gr, rfl, hg, hf, hi, g0, f0, hb⟩
   have HP := am (show Any w w4 c g f gr 0 (0 : Nat) from ⟨_, _, _, _, _, _, _, _, _, Nat.zero_le _, .inl rfl, Int.le_refl _, Int.le_refl _, Chan.rebase (w0 := w) ⟨hg, hf, hi, Kd.R_nil _ _ _ _ _, g0, f0, hb⟩ HB.out⟩)
   replace H3 := b_b H3 hb
   replace H5 := b_b H5 hb
   clear hg hf hi g0 f0 hb HB
   go_wp2_with fail
   go_loopw [56] (fun v56 wr => ∃ k : Nat, k ≤ n ∧ v56 = .int .i64 k ∧ Aside0 (Any w wr c g f gr 0 k) ∧ Aside0 (wr.heap[b3]? = some (.cells c.v 28 (0, 0))) ∧ Aside0 (wr.heap[b5]? = some (.cells #[.int .i64 (cn 0), .int .i64 (cn 1), .int .i64 (cn 2), .int .i64 (cn 3), .int .i64 (cn 4), .int .i64 (cn 5), .int .i64 (cn 6), .int .i64 (cn 7), .int .i64 (cn 8), .int .i64 (cn 9), .int .i64 (cn 10), .int .i64 (cn 11), .int .i64 (cn 12), .int .i64 (cn 13), .int .i64 (cn 14), .int .i64 (cn 15)] 30 (0, 0)))) (fun v56 _ => n + 1 - (intOf v56).toNat)
   case atStart => exact ⟨0, Nat.zero_le _, rfl, HP, H3, H5⟩
   case round =>
    clear HP H3 H5
    obtain ⟨k, hk, rfl, HP, H3, H5⟩ := hrel
    by_cases hlt : k < n
    ·
     have p0 : (0 : Int) ≤ (k : Int) := Int.natCast_nonneg _
     have q0 : (k : Int) < (n : Int) := by omega
     obtain ⟨s, v, mode, since, last, run, count, known, l, hl, hmo, hr0, hr1, h1⟩ := HP.out
     have H := am h1
     obtain ⟨ad, ⟨a, has, p, sh⟩, rfl, ht, hx0, hx1, hx2, hx3⟩ := at_tick HTS.out k hlt
     obtain ⟨t0, t1, t2, t3, t4, t5, t6, t7, t8, s', mode', since', count', known', l', hl', hmo', hst⟩ := told_ex c HC.out s mode since last run (mx c.band 0) c.r c.rg count known l hl a p has sh
     have HST := am hst
     have HL2 := am hl'
     have HMO := am (hmo' hmo)
     have HRU := am (run_any (a := a) (c := c) hr0 hr1 (by omega))
     have HLT := am hlt
     have hb := h1.hb
     replace hx0 := (hb.cell (World.block_lt_of_cell? w _ hx0)).trans hx0
     replace hx1 := (hb.cell (World.block_lt_of_cell? w _ hx1)).trans hx1
     replace hx2 := (hb.cell (World.block_lt_of_cell? w _ hx2)).trans hx2
     replace hx3 := (hb.cell (World.block_lt_of_cell? w _ hx3)).trans hx3
     clear h1 hst hl hl' HP hb hmo hmo' hr0 hr1
     go_upto_region 15 with fail
     clear hx0 hx1 hx2 hx3 q0 p0 hlt
     have l12 : w.heap.size ≤ wr.heap.size := H.out.hb.size
     replace H := am (H.out.alloc (.cells #[a, .bool has, p, .bool sh] 37))
     replace H3 := am (blk_alloc H3.out (.cells #[a, .bool has, p, .bool sh] 37))
     replace H5 := am (blk_alloc H5.out (.cells #[a, .bool has, p, .bool sh] 37))
     have H12 := am (blk_new wr (.cells #[a, .bool has, p, .bool sh] 37))
     generalize wr.alloc (.cells #[a, .bool has, p, .bool sh] 37) = W1 at H H12 H3 H5 ⊢
     generalize wr.heap.size = b12 at H12 l12 ⊢
     have y12_0 := b_v H12 0 (.int .i64 a) rfl
     have y12_1 := b_v H12 1 (.bool has) rfl
     have y12_2 := b_v H12 2 (.int .i64 p) rfl
     have y12_3 := b_v H12 3 (.bool sh) rfl
     go_wp2_with fail
     refine (HST.out a p has rfl rfl rfl rfl rfl w W1 g f gr v HG.out H.out).mono ?_
     rintro e W2 ⟨v', rfl, hc, hk, ho⟩
     clear y12_0 y12_1 y12_2 y12_3 H12
     replace H3 := am (blk_kept H3.out hk (H.out.outof H3.out (by decide)))
     replace H5 := am (blk_kept H5.out hk (H.out.outof H5.out (by decide)))
     clear hk ho
     have hlt := HLT.out
     go_wp2_with fail
     go_roundw
     case rel => exact ⟨k + 1, by omega, rfl, ⟨⟨s', v', mode', since', _, _, count', known', l', HL2.out, HMO.out, HRU.out.1, by have := HRU.out.2; omega, hc⟩⟩, H3, H5⟩
     case measure => simp [intOf]; omega
    have h9 : k = n := by omega
    subst h9
    clear hlt
    have y3_27 := b_v H3 27 (.int .i64 c.hold) rfl
    go_wp2_with fail
    clear y3_27
    have HH := am (hold_ok HC.out)
    have HN := am hn
    go_loopw [66] (fun v66 wr => ∃ j : Nat, (j : Int) ≤ c.hold ∧ v66 = .int .i64 j ∧ Aside0 (Any w wr c g f gr j (k + j)) ∧ Aside0 (wr.heap[b3]? = some (.cells c.v 28 (0, 0))) ∧ Aside0 (wr.heap[b5]? = some (.cells #[.int .i64 (cn 0), .int .i64 (cn 1), .int .i64 (cn 2), .int .i64 (cn 3), .int .i64 (cn 4), .int .i64 (cn 5), .int .i64 (cn 6), .int .i64 (cn 7), .int .i64 (cn 8), .int .i64 (cn 9), .int .i64 (cn 10), .int .i64 (cn 11), .int .i64 (cn 12), .int .i64 (cn 13), .int .i64 (cn 14), .int .i64 (cn 15)] 30 (0, 0)))) (fun v66 _ => 1001 - (intOf v66).toNat)
    case atStart => exact ⟨0, HH.out.1, rfl, HP, H3, H5⟩
    case round =>
     clear HP H3 H5 hk
     obtain ⟨j, hj, rfl, HP, H3, H5⟩ := hrel
     obtain ⟨s, v, mode, since, last, run, count, known, l, hl, hmo, hr0, hr1, h1⟩ := HP.out
     have H := am h1
     have HJ := am hj
     clear h1 HP hj
     by_cases hlt : (j : Int) < c.hold
     ·
      have q0 : decide ((j : Int) < c.hold) = true := decide_eq_true hlt
      obtain ⟨t0, t1, t2, t3, t4, t5, t6, t7, t8, s', mode', since', count', known', l', hl', hmo', hst⟩ := told_ex c HC.out s mode since last run (mx c.band 0) c.r c.rg count known l hl c.clip 0 false false
      have HST := am hst
      have HL2 := am hl'
      have HMO := am (hmo' hmo)
      have HRU := am (show inRun c run c.clip = run + 1 ∧ (j : Int) + 1 ≤ run + 1 ∧ run + 1 ≤ (k : Int) + ((j : Int) + 1) from ⟨run_clip c.clip (clip_clip c) (by omega) hr1 (by have := HH.out.2; omega), by omega, by omega⟩)
      have HLT := am hlt
      clear hst hl hl' hmo hmo' hr0 hr1
      have y3_26 := b_v H3 26 (.int .i64 c.clip) rfl
      go_wp2_with fail
      refine (HST.out c.clip 0 false rfl rfl rfl rfl rfl w wr g f gr v HG.out H.out).mono ?_
      rintro e W2 ⟨v', rfl, hc, hk, ho⟩
      clear y3_26 q0 hlt
      replace H3 := am (blk_kept H3.out hk (H.out.outof H3.out (by decide)))
      replace H5 := am (blk_kept H5.out hk (H.out.outof H5.out (by decide)))
      clear hk ho
      rw [HRU.out.1] at hc
      have hlt := HLT.out
      have hhh := HH.out.2
      go_wp2_with fail
      go_roundw
      case rel => exact ⟨j + 1, by omega, rfl, ⟨⟨s', v', mode', since', _, _, count', known', l', HL2.out, HMO.out, by have := HRU.out.2.1; omega, by have := HRU.out.2.2; omega, hc⟩⟩, H3, H5⟩
      case measure => simp [intOf]; omega
     have q0 : decide ((j : Int) < c.hold) = false := decide_eq_false hlt
     have HFA := am (show clipped c (wrap64 (-c.clip)) = true ∧ inLost c run (wrap64 (-c.clip)) = true from ⟨clip_neg HC.out, lost_clip _ (clip_neg HC.out) (by omega) (by have := HH.out.1; omega) hr1 (by have := HH.out.2; have := HJ.out; omega)⟩)
     have HL := am hl
     have HMO := am hmo
     clear hr0 hr1 hl hmo
     have y3_26 := b_v H3 26 (.int .i64 c.clip) rfl
     have y5_0 := b_v H5 0 (.int .i64 (cn 0)) rfl
     go_wp2_with fail
     refine (step_fall w wr HG.out g f gr s c v mode since last run (mx c.band 0) c.r c.rg count known l (wrap64 (-c.clip)) (cn 0) true false H.out HL.out HC.out HMO.out HFA.out.1 HFA.out.2).mono ?_
     rintro e W2 ⟨v', rfl, hc, hk, ho⟩
     clear y3_26 y5_0 q0 hlt
     replace H3 := am (blk_kept H3.out hk (H.out.outof H3.out (by decide)))
     replace H5 := am (blk_kept H5.out hk (H.out.outof H5.out (by decide)))
     replace H := am hc
     clear hk ho hc
     unfold toldV
     go_upto_region 22 with fail
     have l13 : w.heap.size ≤ W2.heap.size := H.out.hb.size
     replace H := am (H.out.alloc (.cells #[.int .i64 3, .bool false, .bool false, .bool false, .bool true, .bool false, (), (), ()] 39))
     replace H3 := am (blk_alloc H3.out (.cells #[.int .i64 3, .bool false, .bool false, .bool false, .bool true, .bool false, (), (), ()] 39))
     replace H5 := am (blk_alloc H5.out (.cells #[.int .i64 3, .bool false, .bool false, .bool false, .bool true, .bool false, (), (), ()] 39))
     have H13 := am (blk_new W2 (.cells #[.int .i64 3, .bool false, .bool false, .bool false, .bool true, .bool false, (), (), ()] 39))
     generalize W2.alloc (.cells #[.int .i64 3, .bool false, .bool false, .bool false, .bool true, .bool false, (), (), ()] 39) = W3 at H H13 H3 H5 ⊢
     generalize W2.heap.size = b13 at H13 l13 ⊢
     have y13_0 := b_v H13 0 (.int .i64 3) rfl
     have y13_1 := b_v H13 1 (.bool false) rfl
     have y13_2 := b_v H13 2 (.bool false) rfl
     have y13_4 := b_v H13 4 (.bool true) rfl
     have y5_0 := b_v H5 0 (.int .i64 (cn 0)) rfl
     have y5_1 := b_v H5 1 (.int .i64 (cn 1)) rfl
     have y5_2 := b_v H5 2 (.int .i64 (cn 2)) rfl
     have y5_3 := b_v H5 3 (.int .i64 (cn 3)) rfl
     have y5_4 := b_v H5 4 (.int .i64 (cn 4)) rfl
     have y5_5 := b_v H5 5 (.int .i64 (cn 5)) rfl
     have y5_6 := b_v H5 6 (.int .i64 (cn 6)) rfl
     have y5_7 := b_v H5 7 (.int .i64 (cn 7)) rfl
     have y5_8 := b_v H5 8 (.int .i64 (cn 8)) rfl
     have y5_9 := b_v H5 9 (.int .i64 (cn 9)) rfl
     have y5_10 := b_v H5 10 (.int .i64 (cn 10)) rfl
     have y5_11 := b_v H5 11 (.int .i64 (cn 11)) rfl
     have y5_12 := b_v H5 12 (.int .i64 (cn 12)) rfl
     have y5_13 := b_v H5 13 (.int .i64 (cn 13)) rfl
     have y5_14 := b_v H5 14 (.int .i64 (cn 14)) rfl
     have y5_15 := b_v H5 15 (.int .i64 (cn 15)) rfl
     go_wp2_with fail
     clear y5_0 y5_1 y5_2 y5_3 y5_4 y5_5 y5_6 y5_7 y5_8 y5_9 y5_10 y5_11 y5_12 y5_13 y5_14 y5_15
     clear y13_0 y13_1 y13_2 y13_4 H13
     have HAL := am (show Mo.allG ((List.range 16).map cn) = true from List.all_eq_true.2 fun x hx => by
      obtain ⟨i, hi, rfl⟩ := List.mem_map.1 hx
      exact HGD.out i (List.mem_range.1 hi))
     have HME := am (show mean_Of.f 20 ((List.range 15).map cn ++ [cn 15]) = some (((List.range 16).map cn).sum / 16, 0) by
      have e : (List.range 15).map cn ++ [cn 15] = ((List.range 16).map cn) := by rw [show (16 : Nat) = 15 + 1 from rfl, List.range_succ, List.map_append]; rfl
      rw [e, Mo.mean_f _ (by simp) 20 (by simp), if_neg (by simp), if_pos HAL.out]
      simp)
     obtain ⟨z, hz⟩ : ∃ z, z = (if good (((List.range 16).map cn).sum / 16) then alt (((List.range 16).map cn).sum / 16) else 0) := ⟨_, rfl⟩
     have HZ := am hz
     clear hz
     obtain ⟨o, hO⟩ := out_tells z
     have HO := am hO
     have HBK := am (show Back w W3 c g f gr cn 0 from ⟨s, v', _, _, count, known, H.out⟩)
     clear H hO
     go_loopw [99] (fun v99 wr => ∃ i : Nat, i ≤ 16 ∧ v99 = .int .i64 i ∧ Aside0 ((i < 16 → Back w wr c g f gr cn i) ∧ (i = 16 → Done w wr c g f gr z)) ∧ Aside0 (wr.heap[b3]? = some (.cells c.v 28 (0, 0))) ∧ Aside0 (wr.heap[b5]? = some (.cells #[.int .i64 (cn 0), .int .i64 (cn 1), .int .i64 (cn 2), .int .i64 (cn 3), .int .i64 (cn 4), .int .i64 (cn 5), .int .i64 (cn 6), .int .i64 (cn 7), .int .i64 (cn 8), .int .i64 (cn 9), .int .i64 (cn 10), .int .i64 (cn 11), .int .i64 (cn 12), .int .i64 (cn 13), .int .i64 (cn 14), .int .i64 (cn 15)] 30 (0, 0)))) (fun v99 _ => 17 - (intOf v99).toNat)
     case atStart => exact ⟨0, by omega, rfl, ⟨⟨fun _ => HBK.out, fun e => by omega⟩⟩, H3, H5⟩
     case round =>
      clear HBK H3 H5
      obtain ⟨i, hi, rfl, HQ, H3, H5⟩ := hrel
      by_cases h15 : i < 15
      ·
       obtain ⟨s, v, last, run, count, known, h1⟩ := HQ.out.1 (by omega)
       have H := am h1
       clear h1
       have q0 : decide ((i : Int) < 16) = true := decide_eq_true (by omega)
       have q15 : ((i : Int) == 15) = false := by simp; omega
       have q16 : decide ((i : Int) = 15) = false := decide_eq_false (by omega)
       have ik := index16 cn (show i < 16 by omega)
       have y3_25 := b_v H3 25 (.int .i64 c.rest) rfl
       go_wp2_with fail
       refine (step_more w wr HG.out g f gr s c v 3 0 last run (mx c.band 0) c.r c.rg count known ((List.range i).map cn) c.rest (cn i) false H.out HC.out (.inr rfl) (HGD.out i (by omega)) (show inLost c run c.rest = false by rw [inLost, rest_in HC.out]; rfl) (by simp; exact h15)).mono ?_
       rintro e W2 ⟨v', rfl, hc, hk, ho⟩
       clear y3_25 ik
       replace H3 := am (blk_kept H3.out hk (H.out.outof H3.out (by decide)))
       replace H5 := am (blk_kept H5.out hk (H.out.outof H5.out (by decide)))
       rw [rest_in HC.out]
       replace H := am hc
       clear hk ho hc
       unfold toldV
       go_upto_region 28 with fail
       have l16 : w.heap.size ≤ W2.heap.size := H.out.hb.size
       replace H := am (H.out.alloc (.cells #[.int .i64 3, .bool false, .bool false, .bool false, .bool false, .bool false, (), (), ()] 39))
       replace H3 := am (blk_alloc H3.out (.cells #[.int .i64 3, .bool false, .bool false, .bool false, .bool false, .bool false, (), (), ()] 39))
       replace H5 := am (blk_alloc H5.out (.cells #[.int .i64 3, .bool false, .bool false, .bool false, .bool false, .bool false, (), (), ()] 39))
       have H16 := am (blk_new W2 (.cells #[.int .i64 3, .bool false, .bool false, .bool false, .bool false, .bool false, (), (), ()] 39))
       generalize W2.alloc (.cells #[.int .i64 3, .bool false, .bool false, .bool false, .bool false, .bool false, (), (), ()] 39) = W3 at H H16 H3 H5 ⊢
       generalize W2.heap.size = b16 at H16 l16 ⊢
       have y16_1 := b_v H16 1 (.bool false) rfl
       have y16_2 := b_v H16 2 (.bool false) rfl
       go_wp2_with fail
       go_roundw
       case rel => exact ⟨i + 1, by omega, rfl, ⟨⟨fun _ => ⟨s, v', _, _, count, known, by rw [List.range_succ, List.map_append]; exact H.out⟩, fun e => by omega⟩⟩, H3, H5⟩
       case measure => first | (simp [intOf]; done) | (simp [intOf]; omega)
      by_cases hi15 : i = 15
      ·
       subst hi15
       obtain ⟨s, v, last, run, count, known, h1⟩ := HQ.out.1 (by omega)
       have H := am h1
       clear h1
       have hc15 : ((15 : Nat) : Int) = 15 := rfl
       have ik : ∀ w, (Instr.index 30 (.agg #[.int .i64 (cn 0), .int .i64 (cn 1), .int .i64 (cn 2), .int .i64 (cn 3), .int .i64 (cn 4), .int .i64 (cn 5), .int .i64 (cn 6), .int .i64 (cn 7), .int .i64 (cn 8), .int .i64 (cn 9), .int .i64 (cn 10), .int .i64 (cn 11), .int .i64 (cn 12), .int .i64 (cn 13), .int .i64 (cn 14), .int .i64 (cn 15)]) (.int .i64 15)).run Tryz.prog w = .ok (.int .i64 (cn 15)) w := index16 cn (show 15 < 16 by omega)
       have y3_25 := b_v H3 25 (.int .i64 c.rest) rfl
       go_wp2_with fail
       refine (step_end w wr HG.out g f gr s c v 3 0 last run (mx c.band 0) c.r c.rg count known ((List.range 15).map cn) c.rest (cn 15) false H.out HC.out (.inr rfl) (HGD.out 15 (by omega)) (show inLost c run c.rest = false by rw [inLost, rest_in HC.out]; rfl) (by simp) (((List.range 16).map cn).sum / 16) 0 o HME.out (by rw [← HZ.out]; exact HO.out)).mono ?_
       rintro e W2 ⟨v', rfl, hc, hk, ho⟩
       clear y3_25 ik
       replace H3 := am (blk_kept H3.out hk (H.out.outof H3.out (by decide)))
       replace H5 := am (blk_kept H5.out hk (H.out.outof H5.out (by decide)))
       rw [rest_in HC.out]
       replace H := am hc
       clear hk ho hc
       unfold toldV
       go_upto_region 28 with fail
       have l16 : w.heap.size ≤ W2.heap.size := H.out.hb.size
       replace H := am (H.out.alloc (.cells #[.int .i64 1, .bool true, .bool true, .bool false, .bool false, .bool false, o, (), ()] 39))
       replace H3 := am (blk_alloc H3.out (.cells #[.int .i64 1, .bool true, .bool true, .bool false, .bool false, .bool false, o, (), ()] 39))
       replace H5 := am (blk_alloc H5.out (.cells #[.int .i64 1, .bool true, .bool true, .bool false, .bool false, .bool false, o, (), ()] 39))
       have H16 := am (blk_new W2 (.cells #[.int .i64 1, .bool true, .bool true, .bool false, .bool false, .bool false, o, (), ()] 39))
       generalize W2.alloc (.cells #[.int .i64 1, .bool true, .bool true, .bool false, .bool false, .bool false, o, (), ()] 39) = W3 at H H16 H3 H5 ⊢
       generalize W2.heap.size = b16 at H16 l16 ⊢
       have y16_1 := b_v H16 1 (.bool true) rfl
       have y16_2 := b_v H16 2 (.bool true) rfl
       go_wp2_with fail
       go_roundw
       case rel => exact ⟨16, by omega, rfl, ⟨⟨fun e => by omega, fun _ => ⟨v', _, _, _, _, by rw [HZ.out]; exact H.out⟩⟩⟩, H3, H5⟩
       case measure => first | (simp [intOf]; done) | (simp [intOf]; omega)
      have h16 : i = 16 := by omega
      subst h16
      obtain ⟨v, last, run, count, known, h1⟩ := HQ.out.2 rfl
      have H := am h1
      have hc16 : ((16 : Nat) : Int) = 16 := rfl
      clear h1 HQ
      have hrm := fun W cap h => refmean_any W (some ⟨b5, 0, none⟩) cap ((List.range 16).map cn) h
      have hra := fun W => ralt_any W (((List.range 16).map cn).sum / 16)
      rw [← HZ.out] at hra
      generalize ((List.range 16).map cn).sum / 16 = mm at hrm hra
      generalize (if good mm = true then (0 : Int) else 2) = ez at hra
      have HRM := am hrm
      have HRA := am hra
      clear hrm hra
      go_wp2_with fail
      refine (HRM.out wr 16 (row16 H5.out) (by simp) (by simp) HAL.out).mono ?_
      rintro e W4 ⟨rfl, hb⟩
      replace H := am (H.out.below hb)
      replace H3 := b_b H3 hb
      clear hb hc16 H5
      go_wp2_with fail
      refine (HRA.out W4).mono ?_
      rintro e W5 ⟨rfl, hb⟩
      replace H := am (H.out.below hb)
      replace H3 := b_b H3 hb
      clear hb
      have yg_0 := bcv H.out.hg 0 (.int .i64 z) rfl
      have yg_1 := bcv H.out.hg 1 (.int .i64 0) rfl
      have yg_2 := bcv H.out.hg 2 (.int .i64 0) rfl
      have yg_3 := bcv H.out.hg 3 (.int .i64 c.s0) rfl
      have yg_4 := bcv H.out.hg 4 (.int .i64 0) rfl
      have yg_5 := bcv H.out.hg 5 (.int .i64 0) rfl
      have yg_6 := bcv H.out.hg 6 (.int .i64 c.s1) rfl
      have yg_7 := bcv H.out.hg 7 (.int .i64 0) rfl
      have yg_8 := bcv H.out.hg 8 (.int .i64 c.s2) rfl
      go_wp2_with fail
      refine (state_any W5 z 0 0 c.s0 0 0 c.s1 0 c.s2).mono ?_
      rintro e W6 ⟨rfl, hb⟩
      replace H := am (H.out.below hb)
      replace H3 := b_b H3 hb
      clear hb yg_0 yg_1 yg_2 yg_3 yg_4 yg_5 yg_6 yg_7 yg_8
      unfold vec sym
      go_upto_region 34 with fail
      obtain ⟨x21, x22, hb⟩ := blocks2 W6 #[z, (), ()] #[c.s0, (), (), c.s1, (), c.s2] 26 46
      replace H := am (H.out.below hb)
      replace H3 := b_b H3 hb
      have H21 := am x21
      have H22 := am x22
      clear x21 x22 hb
      generalize (W6.alloc (.cells #[z, (), ()] 26)).alloc (.cells #[c.s0, (), (), c.s1, (), c.s2] 46) = W7 at H H3 H21 H22 ⊢
      generalize W6.heap.size + 1 = b22 at H22 ⊢
      generalize W6.heap.size = b21 at H21 ⊢
      go_wp2_with fail
      refine (clock_any w W7 g f gr _ c v 1 0 last run (mx c.band 0) c.r c.rg count known [] H.out).mono ?_
      rintro e W8 ⟨rfl, hb⟩
      replace H3 := b_b H3 hb
      replace H21 := b_b H21 hb
      replace H22 := b_b H22 hb
      have HB := am (below_step H.out.hb hb)
      clear hb H
      go_upto_region 35 with fail
      refine s_t 23 (fun w' => w'.heap[b21]? = some (.cells #[z, (), ()] 26 (0, 0)) ∧ w'.heap[b22]? = some (.cells #[c.s0, (), (), c.s1, (), c.s2] 46 (0, 0)) ∧ w'.heap[b3]? = some (.cells c.v 28 (0, 0))) ⟨H21.out, H22.out, H3.out⟩ (fun hHeld => ?_)
      replace HB := am (below_drew HB.out)
      replace H3 := b_d H3
      replace H21 := b_d H21
      replace H22 := b_d H22
      generalize W8.drew = X0 at HB H3 H21 H22 hHeld ⊢
      refine o_n 0 145 23 1 fun K hK => ?_
      refine g_s Tryz.func6 #[] ?_
      refine (fixed_any X0 (HG.out.below HB.out)).mono ?_
      rintro e X1 ⟨rfl, hb⟩
      replace H3 := b_b H3 hb
      replace H21 := b_b H21 hb
      replace H22 := b_b H22 hb
      replace HB := b_s HB hb
      clear hb hHeld
      refine ⟨_, rfl, ?_⟩
      refine hK.out _ _ ⟨H21.out, H22.out, H3.out⟩ (fun hHeld => ?_)
      clear hK K
      refine n_o 145 ?_
      refine p_u 1 146 23 3 ?_
      refine t_a 2 147 23 7 hHeld ?_ (hv := by rintro w' ⟨s0, s1, s2⟩; have x0 := bcv s0 0 (.int .i64 z) rfl; have x1 := bcv s0 1 (.int .i64 0) rfl; have x2 := bcv s0 2 (.int .i64 0) rfl; go_simp; with_reducible rfl)
      refine p_u 3 148 23 15 ?_
      refine p_u 4 149 23 31 ?_
      refine pure_ (i := 5) (N := (some 150)) (v := (.bool true)) (a' := ?_) (flg 23 63) rfl rfl (by kernel_rfl) (fun _ _ _ h => h) (Or.inl ⟨by rfl, ?_⟩) ?_ ?_
      ·
       intro w'
       exact eql26 z (.tmp 147) (.tmp 149) rfl rfl rfl w'
      rotate_left
      ·
       simp only [pw]
       rfl
      refine p_u 6 151 23 127 ?_
      refine p_u 7 152 23 255 ?_
      refine t_a 8 153 23 511 hHeld ?_ (hv := by rintro w' ⟨s0, s1, s2⟩; have x0 := bcv s1 0 (.int .i64 c.s0) rfl; have x1 := bcv s1 1 (.int .i64 0) rfl; have x2 := bcv s1 2 (.int .i64 0) rfl; have x3 := bcv s1 3 (.int .i64 c.s1) rfl; have x4 := bcv s1 4 (.int .i64 0) rfl; have x5 := bcv s1 5 (.int .i64 c.s2) rfl; go_simp; with_reducible rfl)
      refine p_u 9 154 23 1023 ?_
      refine t_a 10 155 23 2047 hHeld ?_ (hv := by rintro w' ⟨s0, s1, s2⟩; have x0 := bcv s2 8 (.int .i64 c.s0) rfl; have x1 := bcv s2 9 (.int .i64 c.s1) rfl; have x2 := bcv s2 10 (.int .i64 c.s2) rfl; go_simp; with_reducible rfl)
      refine o_n 11 156 23 4095 fun K hK => ?_
      refine g_s Tryz.func15 #[.agg #[c.s0, c.s1, c.s2]] ?_
      refine (diag_any X1 c.s0 c.s1 c.s2).mono ?_
      rintro e X2 ⟨rfl, hb⟩
      replace H3 := b_b H3 hb
      replace H21 := b_b H21 hb
      replace H22 := b_b H22 hb
      replace HB := b_s HB hb
      clear hb hHeld
      refine ⟨_, rfl, ?_⟩
      refine hK.out _ _ ⟨H21.out, H22.out, H3.out⟩ (fun hHeld => ?_)
      clear hK K
      refine n_o 156 ?_
      refine pure_ (i := 12) (N := (some 157)) (v := (.bool true)) (a' := ?_) (flg 23 8191) rfl rfl (by kernel_rfl) (fun _ _ _ h => h) (Or.inl ⟨by rfl, ?_⟩) ?_ ?_
      ·
       intro w'
       exact eql46 c.s0 c.s1 c.s2 (.tmp 153) (.tmp 156) rfl rfl rfl w'
      rotate_left
      ·
       simp only [pw]
       rfl
      refine p_u 13 158 23 16383 ?_
      refine p_u 14 159 23 32767 ?_
      refine p_u 15 160 23 65535 ?_
      refine p_u 16 161 23 131071 ?_
      refine p_u 17 162 23 262143 ?_
      refine p_u 18 163 23 524287 ?_
      refine p_u 19 164 23 1048575 ?_
      refine p_u 20 165 23 2097151 ?_
      refine p_u 21 166 23 4194303 ?_
      refine p_u 22 6 23 8388607 ?_
      refine d_n ?_
      go_wp2_with fail
      go_ret
      exact ⟨rfl, HB.out⟩
 have qa : (ck == 0) = false := by simp [hc]
 have qb : decide (ck = 0) = false := decide_eq_false hc
 have qc : (ck != 0) = true := by simp [hc]
 clear hc hck
 go_wp2_with fail
 refine (fixed_any w2 (HG.out.below HB.out)).mono ?_
 rintro e w9 ⟨rfl, hb⟩
 go_wp2_with fail
 go_ret
 exact ⟨rfl, below_step HB.out hb⟩
end Go.Proofs.YtpdahkgandaabaaGreatDoor.Ch
