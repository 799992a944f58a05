/- A part of the proof of TopAgain, where the package's tables hold what their initialisers lay. -/
import Derived.Test.YtpdahkgandaabaaGreatDoorT01
import Derived.Test.YtpdahkgandaabaaGreatDoorT09
import Derived.Test.YtpdahkgandaabaaGreatDoorT10
import Derived.Test.YtpdahkgandaabaaGreatDoorT15
import Derived.Test.YtpdahkgandaabaaGreatDoorT20
import Derived.Test.YtpdahkgandaabaaGreatDoorT21
namespace Go.Proofs.YtpdahkgandaabaaGreatDoor.Ch
open Go.RowKit Go.Proofs.YtpdahkgandaabaaGreatDoorW.PrintWords Go.Proofs.YtpdahkgandaabaaGreatDoorW.PrintLast Go.Proofs.YtpdahkgandaabaaGreatDoorW.PrintMore Go.Proofs.YtpdahkgandaabaaGreatDoor.PTopNames Go.Proofs.YtpdahkgandaabaaGreatDoor.Al
set_option linter.unusedVariables false
set_option linter.unusedSimpArgs false
theorem step_more (w0 w : World) (hG : G w0) (g f gr : Nat) (s : Gs) (c : Cf) (v : Value) (mode since last run band noise rough count : Int) (known : Bool) (l : List Int) (a p : Int) (sh : Bool)
  (h : Chan w0 w g f gr s c v mode since last run band noise rough count known l) (hck : checkR c = 0) (hm : mode = 0 ∨ mode = 3) (hp : good p = true) (hlo : inLost c run a = false) (hl : l.length < 15) :
  Calls Tryz.prog 10 #[.pointer (some ⟨g, 0, none⟩), .agg #[a, .bool true, p, .bool sh]] w fun e w' => ∃ v', e = .returned (.agg (toldV mode false false false (clipped c a) false 0 0 0)) ∧ Chan w0 w' g f gr s c v' mode since (inT c last a) (inRun c run a) band noise rough count known (l ++ [p]) ∧ Kept w w' (fun k => k = g ∨ k = f ∨ k = gr ∨ v.ownBlock = some k) ∧ OwT w v v' := by
 obtain ⟨al, h0⟩ := out_tells s.x0
 obtain ⟨sp, h1⟩ := out_tells s.x1
 obtain ⟨bi, h2⟩ := out_tells s.x2
 have hs : seeksB mode = true := by rcases hm with rfl | rfl <;> rfl
 have hv : validB mode = false := by rcases hm with rfl | rfl <;> rfl
 refine (step_any c hck s mode since last run band noise rough count known l (by omega) a p true sh _ _ p _ _ true ⟨2, false, false, false, s, count, known, l ++ [p]⟩ mode since al sp bi rfl rfl rfl hlo (brings_yes a p sh hp)
  ⟨nofun, fun _ _ h => absurd h (by decide), fun _ _ _ _ => rfl, fun _ _ _ h => by omega, fun _ h => absurd (hs.symm.trans h) (by decide)⟩ (on_miss hm) h0 h1 h2 w0 w g f gr v hG h).mono ?_
 rintro e w' ⟨v', rfl, hc, hk, ho⟩
 exact ⟨v', by simp [hv], by simpa [hs] using hc, hk, ho⟩
theorem step_end (w0 w : World) (hG : G w0) (g f gr : Nat) (s : Gs) (c : Cf) (v : Value) (mode since last run band noise rough count : Int) (known : Bool) (l : List Int) (a p : Int) (sh : Bool)
  (h : Chan w0 w g f gr s c v mode since last run band noise rough count known l) (hck : checkR c = 0) (hm : mode = 0 ∨ mode = 3) (hp : good p = true) (hlo : inLost c run a = false) (hl : l.length = 15) (m em o : Int) (hmean : mean_Of.f 20 (l ++ [p]) = some (m, em)) (hO : Tells 30 #[.int .i64 (if good m then alt m else 0)] (.int .i64 o)) :
  Calls Tryz.prog 10 #[.pointer (some ⟨g, 0, none⟩), .agg #[a, .bool true, p, .bool sh]] w fun e w' => ∃ v', e = .returned (.agg (toldV 1 true true false (clipped c a) false o 0 0)) ∧ Chan w0 w' g f gr ⟨if good m then alt m else 0, 0, 0, c.s0, 0, 0, c.s1, 0, c.s2⟩ c v' 1 0 (inT c last a) (inRun c run a) band noise rough (if good m && !known then m else count) (known || good m) [] ∧ Kept w w' (fun k => k = g ∨ k = f ∨ k = gr ∨ v.ownBlock = some k) ∧ OwT w v v' := by
 have hs : seeksB mode = true := by rcases hm with rfl | rfl <;> rfl
 have hz : Tells 30 #[()] (.int .i64 0) := fun w _ => out_zero w
 refine (step_any c hck s mode since last run band noise rough count known l (by omega) a p true sh _ _ p _ _ true ⟨0, true, false, false, ⟨if good m then alt m else 0, 0, 0, c.s0, 0, 0, c.s1, 0, c.s2⟩, (if good m && !known then m else count), (known || good m), l ++ [p]⟩ 1 0 o 0 0 rfl rfl rfl hlo (brings_yes a p sh hp)
  ⟨nofun, fun _ _ h => absurd h (by decide), fun _ _ _ h => by omega, fun _ _ _ _ => ⟨m, em, hmean, rfl⟩, fun _ h => absurd (hs.symm.trans h) (by decide)⟩ (on_enter hm) hO hz hz w0 w g f gr v hG h).mono ?_
 rintro e w' ⟨v', rfl, hc, hk, ho⟩
 exact ⟨v', rfl, hc, hk, ho⟩
theorem step_last (w0 w : World) (hG : G w0) (g f gr : Nat) (s : Gs) (c : Cf) (v : Value) (mode since last run band noise rough count : Int) (known : Bool) (l : List Int) (a p : Int) (sh : Bool)
  (h : Chan w0 w g f gr s c v mode since last run band noise rough count known l) (hck : checkR c = 0) (hm : mode = 0 ∨ mode = 3) (hp : good p = true) (hlo : inLost c run a = false) (hl : l.length = 15) (m o : Int) (hmean : mean_Of.f 20 (l ++ [p]) = some (m, 0)) (hgm : good m = true) (hkn : known = false) (hO : Tells 30 #[.int .i64 (alt m)] (.int .i64 o)) :
  Calls Tryz.prog 10 #[.pointer (some ⟨g, 0, none⟩), .agg #[a, .bool true, p, .bool sh]] w fun e w' => ∃ v', e = .returned (.agg (toldV 1 true true false (clipped c a) false o 0 0)) ∧ Chan w0 w' g f gr ⟨alt m, 0, 0, c.s0, 0, 0, c.s1, 0, c.s2⟩ c v' 1 0 (inT c last a) (inRun c run a) band noise rough m true [] ∧ Kept w w' (fun k => k = g ∨ k = f ∨ k = gr ∨ v.ownBlock = some k) ∧ OwT w v v' := by
 refine (step_end w0 w hG g f gr s c v mode since last run band noise rough count known l a p sh h hck hm hp hlo hl m 0 o hmean (by simpa [hgm] using hO)).mono ?_
 rintro e w' ⟨v', rfl, hc, hk, ho⟩
 exact ⟨v', rfl, by simpa [hgm, hkn] using hc, hk, ho⟩
theorem told_ex (c : Cf) (hck : checkR c = 0) (s : Gs) (mode since last run band noise rough count : Int) (known : Bool) (l : List Int) (hl : l.length ≤ 15) (a p : Int) (has sh : Bool) : ∃ (t0 : Int) (t1 t2 t3 t4 t5 : Bool) (t6 t7 t8 : Int) (s' : Gs) (mode' since' count' : Int) (known' : Bool) (l' : List Int),
  l'.length ≤ 15 ∧ (mode = 0 ∨ mode = 1 ∨ mode = 2 ∨ mode = 3 → mode' = 0 ∨ mode' = 1 ∨ mode' = 2 ∨ mode' = 3) ∧ ∀ (a' p' : Int) (has' : Bool), inT c last a' = inT c last a → inRun c run a' = inRun c run a → clipped c a' = clipped c a → inLost c run a' = inLost c run a → baro_Brings.f a' has' p' sh = baro_Brings.f a has p sh →
  ∀ (w0 w : World) (g f gr : Nat) (v : Value), G w0 → Chan w0 w g f gr s c v mode since last run band noise rough count known l → Calls Tryz.prog 10 #[.pointer (some ⟨g, 0, none⟩), .agg #[a', .bool has', p', .bool sh]] w fun e w' => ∃ v', e = .returned (.agg #[t0, .bool t1, .bool t2, .bool t3, .bool t4, .bool t5, t6, t7, t8]) ∧ Chan w0 w' g f gr s' c v' mode' since' (inT c last a) (inRun c run a) band noise rough count' known' l' ∧ Kept w w' (fun k => k = g ∨ k = f ∨ k = gr ∨ v.ownBlock = some k) ∧ OwT w v v' := by
 obtain ⟨m, hm, hm16, hm15⟩ := mid_ex c s mode (inT c last a) (clipped c a) (inLost c run a) (has && good p) sh (if has && good p then p else 0) band noise rough count known l hl
 obtain ⟨m2, s2, hon, hmo⟩ := on_ex mode since m.ev c.coast c.out
 obtain ⟨al, h0⟩ := out_tells m.s.x0
 obtain ⟨sp, h1⟩ := out_tells m.s.x1
 obtain ⟨bi, h2⟩ := out_tells m.s.x2
 refine ⟨_, _, _, _, _, _, _, _, _, _, _, _, _, _, _, ?_, ?_, fun a' p' has' e1 e2 e3 e4 hb w0 w g f gr v hG h => step_any c hck s mode since last run band noise rough count known l hl a' p' has' sh _ _ _ _ _ _ m m2 s2 al sp bi e1 e2 e3 e4 (hb.trans (brings_f a p has sh)) hm hon h0 h1 h2 w0 w g f gr v hG h⟩
 ·
  split
  ·
   exact Nat.zero_le _
  rename_i hd
  refine hm15 (fun e => hd ?_)
  simp [e]
 exact hmo
end Go.Proofs.YtpdahkgandaabaaGreatDoor.Ch
namespace Go.Proofs.YtpdahkgandaabaaGreatDoor.Ch
open Go.RowKit Go.Proofs.YtpdahkgandaabaaGreatDoorW.PrintWords Go.Proofs.YtpdahkgandaabaaGreatDoorW.PrintLast Go.Proofs.YtpdahkgandaabaaGreatDoorW.PrintMore Go.Proofs.YtpdahkgandaabaaGreatDoor.PTopNames
set_option linter.unusedVariables false
set_option linter.unusedSimpArgs false
def dflt : Cf := ⟨1024, 65536, 256, 16384, 4194304, 4096, 274877906944, 4398046511104, 4398046511104, 1099511627776, 68719476736, 256, 256, 256, 1125899906842624, 281474976710656, 17592186044416, 18014398509481984, 562949953421312, 8796093022208, 9, 34359738368, 17179869184, (-1073741824), 536870912, 2048, 32768, 32, 64, 1280, 240⟩
theorem dflt_ok : checkR dflt = 0 := by decide +kernel
def dfltV : Array Value := #[.int .i64 1024, .int .i64 65536, .int .i64 256, .int .i64 16384, .int .i64 4194304, .int .i64 4096, .int .i64 274877906944, .int .i64 4398046511104, .int .i64 4398046511104, .int .i64 1099511627776, .int .i64 68719476736, .int .i64 256, .int .i64 256, .int .i64 256, .int .i64 1125899906842624, .int .i64 281474976710656, .int .i64 17592186044416, .int .i64 18014398509481984, .int .i64 562949953421312, .int .i64 8796093022208, .int .i64 9, .int .i64 34359738368, .int .i64 17179869184, .int .i64 (-1073741824), .int .i64 536870912, .int .i64 2048, .int .i64 32768, .int .i64 32, .int .i64 64, .int .i64 1280, .int .i64 240]
theorem dflt_v : dflt.v = dfltV := by kernel_rfl
def zeroV : Array Value := #[.int .i64 0, .int .i64 0, .int .i64 0, .int .i64 0, .int .i64 0, .int .i64 0, .int .i64 0, .int .i64 0, .int .i64 0, .int .i64 0, .int .i64 0, .int .i64 0, .int .i64 0, .int .i64 0, .int .i64 0, .int .i64 0, .int .i64 0, .int .i64 0, .int .i64 0, .int .i64 0, .int .i64 0, .int .i64 0, .int .i64 0, .int .i64 0, .int .i64 0, .int .i64 0, .int .i64 0, .int .i64 0, .int .i64 0, .int .i64 0, .int .i64 0]
set_option maxRecDepth 100000 in
set_option maxHeartbeats 4000000 in
theorem default_any (w : World) : Calls Tryz.prog 18 #[] w fun e w' => e = .returned (.agg dflt.v) ∧ Below w.heap.size w w' := by
 rw [dflt_v]
 have HB := am (below_alloc (Below.refl w.heap.size w) (.cells dfltV 28))
 go_enter Tryz.func18, Tryz.ntmps18
 go_upto_region 1 with fail
 iterate 26 go_step
 refine wp_store_row 28 (.tmp 0) (.tmp 8) rfl w.heap.size dfltV rfl rfl 28 zeroV (heap_alloc_last w _) (by kernel_rfl) (by kernel_rfl) (by kernel_rfl) ?_
 rw [show (w.alloc (.cells #[(), (), (), (), (), (), (), (), (), (), (), (), (), (), (), (), (), (), (), (), (), (), (), (), (), (), (), (), (), (), ()] 28)).setRow w.heap.size dfltV = w.alloc (.cells dfltV 28) from World.setRow_alloc_new w _ _ _]
 go_wp2_with fail
 refine bodyPost_ret (v := .agg dfltV) ?_ rfl ⟨rfl, HB.out⟩
 exact results_cell_row rfl _ _ w.heap.size 28 dfltV (0, 0) _ rfl (heap_alloc_last w _) Tryz.underlying28 rfl (by kernel_rfl)
end Go.Proofs.YtpdahkgandaabaaGreatDoor.Ch
namespace Go.Proofs.YtpdahkgandaabaaGreatDoor.Ch
open Go.RowKit Go.Proofs.YtpdahkgandaabaaGreatDoorW.PrintWords Go.Proofs.YtpdahkgandaabaaGreatDoorW.PrintLast Go.Proofs.YtpdahkgandaabaaGreatDoorW.PrintMore Go.Proofs.YtpdahkgandaabaaGreatDoor.PTopNames Go.Proofs.YtpdahkgandaabaaGreatDoor.Al
set_option linter.unusedVariables false
set_option linter.unusedSimpArgs false
theorem d_last : inT dflt 0 2048 = 0 := by decide +kernel
theorem d_run : inRun dflt 0 2048 = 0 := by decide +kernel
theorem d_clip : clipped dflt 2048 = false := by decide +kernel
theorem d_lost : inLost dflt 0 2048 = false := by decide +kernel
theorem d_good : good 405300 = true := by decide +kernel
theorem d_alt : alt 405300 = 0 := by decide +kernel
theorem d_mean : mean_Of.f 20 (List.replicate 15 405300 ++ [405300]) = some (405300, 0) := by decide +kernel
def FIN : Array Value := toldV 1 true true false false false 0 0 0
def ZED : Array Value := toldV 0 false false false false false 0 0 0
theorem rep_snoc (k : Nat) (x : Int) : List.replicate k x ++ [x] = List.replicate (k + 1) x := (List.replicate_succ' (n := k) (a := x)).symm
def TB (k : Nat) : Array Value := if k = 16 then FIN else ZED
theorem tb_no {k : Nat} (h : k ≠ 16) : TB k = ZED := if_neg h
theorem Chan.told2 {w0 W : World} {g f gr : Nat} {s : Gs} {c : Cf} {v : Value} {mode since last run band noise rough count : Int} {known : Bool} {l : List Int} (h : Chan w0 W g f gr s c v mode since last run band noise rough count known l) {b : Nat}
  (hb : W.heap[b]? = some (.cells ZED 39 (0, 0))) (b0 : w0.heap.size ≤ b) (m : Int) (va ac re he gr' : Bool) (al sp bi : Int) :
  (((((((((W.setCell ⟨b, 0, none⟩ (.int .i64 m)).setCell ⟨b, 1, none⟩ (.bool va)).setCell ⟨b, 2, none⟩ (.bool ac)).setCell ⟨b, 3, none⟩ (.bool re)).setCell ⟨b, 4, none⟩ (.bool he)).setCell ⟨b, 5, none⟩ (.bool gr')).setCell ⟨b, 6, none⟩ (.int .i64 al)).setCell ⟨b, 7, none⟩ (.int .i64 sp)).setCell ⟨b, 8, none⟩ (.int .i64 bi)).heap[b]? = some (.cells (toldV m va ac re he gr' al sp bi) 39 (0, 0)) ∧ Chan w0 (((((((((W.setCell ⟨b, 0, none⟩ (.int .i64 m)).setCell ⟨b, 1, none⟩ (.bool va)).setCell ⟨b, 2, none⟩ (.bool ac)).setCell ⟨b, 3, none⟩ (.bool re)).setCell ⟨b, 4, none⟩ (.bool he)).setCell ⟨b, 5, none⟩ (.bool gr')).setCell ⟨b, 6, none⟩ (.int .i64 al)).setCell ⟨b, 7, none⟩ (.int .i64 sp)).setCell ⟨b, 8, none⟩ (.int .i64 bi)) g f gr s c v mode since last run band noise rough count known l := by
 have p0 := blk_set hb 0 (.int .i64 m)
 have p1 := blk_set p0 1 (.bool va)
 have p2 := blk_set p1 2 (.bool ac)
 have p3 := blk_set p2 3 (.bool re)
 have p4 := blk_set p3 4 (.bool he)
 have p5 := blk_set p4 5 (.bool gr')
 have p6 := blk_set p5 6 (.int .i64 al)
 have p7 := blk_set p6 7 (.int .i64 sp)
 have p8 := blk_set p7 8 (.int .i64 bi)
 exact ⟨p8.trans (by kernel_rfl), h.but hb (by decide) ((((((((((Kept.refl W (fun k => k = b)).setCell (p := ⟨b, 0, none⟩) (.inl rfl) (.int .i64 m)).setCell (p := ⟨b, 1, none⟩) (.inl rfl) (.bool va)).setCell (p := ⟨b, 2, none⟩) (.inl rfl) (.bool ac)).setCell (p := ⟨b, 3, none⟩) (.inl rfl) (.bool re)).setCell (p := ⟨b, 4, none⟩) (.inl rfl) (.bool he)).setCell (p := ⟨b, 5, none⟩) (.inl rfl) (.bool gr')).setCell (p := ⟨b, 6, none⟩) (.inl rfl) (.int .i64 al)).setCell (p := ⟨b, 7, none⟩) (.inl rfl) (.int .i64 sp)).setCell (p := ⟨b, 8, none⟩) (.inl rfl) (.int .i64 bi)) (((((((((h.hb.setCell (p := ⟨b, 0, none⟩) b0 (.int .i64 m)).setCell (p := ⟨b, 1, none⟩) b0 (.bool va)).setCell (p := ⟨b, 2, none⟩) b0 (.bool ac)).setCell (p := ⟨b, 3, none⟩) b0 (.bool re)).setCell (p := ⟨b, 4, none⟩) b0 (.bool he)).setCell (p := ⟨b, 5, none⟩) b0 (.bool gr')).setCell (p := ⟨b, 6, none⟩) b0 (.int .i64 al)).setCell (p := ⟨b, 7, none⟩) b0 (.int .i64 sp)).setCell (p := ⟨b, 8, none⟩) b0 (.int .i64 bi))⟩
def Ex (w0 W : World) (g f gr : Nat) (k : Nat) : Prop := ∃ v, Chan w0 W g f gr ⟨0, 0, 0, 0, 0, 0, 0, 0, 0⟩ dflt v 0 0 0 0 (mx dflt.band 0) dflt.r dflt.rg 0 false (List.replicate k 405300)
set_option maxRecDepth 100000 in
set_option maxHeartbeats 4000000 in
theorem fixed_any (w : World) (hT : G w) : Calls Tryz.prog 6 #[] w fun e w' => e = .returned (.bool true) ∧ Below w.heap.size w w' := by
 have HT := am hT
 clear hT
 have hnil : ∀ (g : Nat) (w : World), (binOp .eql 33 (.pointer (some ⟨g, 0, none⟩)) (.pointer none)).run Tryz.prog w = .ok (.bool false) w := fun _ _ => by first | rfl | (simp [go_sem]; done)
 have heq : ∀ w, (binOp .eql 39 (.agg #[.int .i64 1, .bool true, .bool true, .bool false, .bool false, .bool false, (), (), ()]) (.agg #[.int .i64 1, .bool true, .bool true, .bool false, .bool false, .bool false, (), (), ()])).run Tryz.prog w = .ok (.bool true) w := fun _ => by kernel_rfl
 go_enter Tryz.func6, Tryz.ntmps6
 go_wp2_with fail
 refine (default_any w).mono ?_
 rintro e w1 ⟨rfl, hb⟩
 have HB := am hb
 clear hb
 go_wp2_with fail
 refine (new_any w1 dflt dflt_ok).mono ?_
 rintro e w2 ⟨g, f, gr, rfl, hg, hf, hi, g0, f0, hb⟩
 have HG := am (Nat.le_trans HB.out.size g0)
 have HE := am (show Ex w w2 g f gr 0 from ⟨.slice none 0 0, hg, hf, ⟨hi.1, Nat.le_trans HB.out.size hi.2⟩, Kd.R_nil _ _ _ _ _, Nat.le_trans HB.out.size g0, Nat.le_trans HB.out.size f0, below_step HB.out hb⟩)
 have HB2 := HE
 clear hg hf hi g0 f0 hb HB
 go_upto_region 5 with fail
 have HX := am (blk_new w2 (.cells #[(), .bool false, .bool false, .bool false, .bool false, .bool false, (), (), ()] 39))
 replace HE := am (show Ex w (w2.alloc (.cells #[(), .bool false, .bool false, .bool false, .bool false, .bool false, (), (), ()] 39)) g f gr 0 from (by obtain ⟨v, h⟩ := HE.out; exact ⟨v, h.alloc _⟩))
 have HG0 := am (show w.heap.size ≤ w2.heap.size from (by obtain ⟨v, h⟩ := HB2.out; exact h.hb.size))
 generalize w2.alloc (.cells #[(), .bool false, .bool false, .bool false, .bool false, .bool false, (), (), ()] 39) = w3 at HX HE ⊢
 generalize w2.heap.size = b at HX HG0 ⊢
 clear HB2
 go_wp2_with fail
 go_loopw [15] (fun v15 wr => ∃ k : Nat, k ≤ 16 ∧ v15 = .int .i64 k ∧ Aside0 (k < 16 → Ex w wr g f gr k) ∧ Aside0 (wr.heap[b]? = some (.cells (TB k) 39 (0, 0))) ∧ Aside0 (Below w.heap.size w wr)) (fun v15 _ => 17 - (intOf v15).toNat)
 case atStart => exact ⟨0, by omega, rfl, ⟨fun _ => HE.out⟩, ⟨HX.out⟩, ⟨(by obtain ⟨v, h⟩ := HE.out; exact h.hb)⟩⟩
 case round =>
  clear HE HX
  obtain ⟨k, hk, rfl, HE, HX, HB⟩ := hrel
  by_cases hlt : k < 15
  ·
   have q0 : decide ((k : Int) < 16) = true := decide_eq_true (by omega)
   replace HX := am ((tb_no (by omega : k ≠ 16)) ▸ HX.out)
   obtain ⟨v, hC⟩ := HE.out (by omega)
   have HC := am hC
   clear hC HE HB
   go_wp2_with fail
   refine (step_more w wr HT.out g f gr ⟨0, 0, 0, 0, 0, 0, 0, 0, 0⟩ dflt v 0 0 0 0 (mx dflt.band 0) dflt.r dflt.rg 0 false (List.replicate k 405300) 2048 405300 false HC.out dflt_ok (.inl rfl) d_good d_lost (by rw [List.length_replicate]; omega)).mono ?_
   rintro e wx ⟨v', rfl, hC, hk, _⟩
   have hX := blk_kept HX.out hk (fun hS => by rcases hS with e | e | e | e; exact blk_ne HX.out HC.out.hg (by decide) e; exact blk_ne HX.out HC.out.hf (by decide) e; exact (HC.out.hi.ne_blk HX.out (by decide)) e.symm; exact (Kd.R_ne HC.out.hr HX.out (by decide)) e.symm)
   rw [d_last, d_run, rep_snoc] at hC
   have HX2 := am hX
   have HC2 := am hC
   clear hX hC hk
   rw [d_clip]
   unfold toldV
   have y0 := b_v HX2 0 (.int .i64 0) rfl
   have f0 := b_z HX2 0
   have y1 := b_v HX2 1 (.bool false) rfl
   have f1 := b_z HX2 1
   have y2 := b_v HX2 2 (.bool false) rfl
   have f2 := b_z HX2 2
   have y3 := b_v HX2 3 (.bool false) rfl
   have f3 := b_z HX2 3
   have y4 := b_v HX2 4 (.bool false) rfl
   have f4 := b_z HX2 4
   have y5 := b_v HX2 5 (.bool false) rfl
   have f5 := b_z HX2 5
   have y6 := b_v HX2 6 (.int .i64 0) rfl
   have f6 := b_z HX2 6
   have y7 := b_v HX2 7 (.int .i64 0) rfl
   have f7 := b_z HX2 7
   have y8 := b_v HX2 8 (.int .i64 0) rfl
   have f8 := b_z HX2 8
   obtain ⟨q4, qh⟩ := HC2.out.told2 HX2.out HG0.out 0 false false false false false 0 0 0
   go_wp2_with fail
   generalize ((((((((wx.setCell ⟨b, 0, none⟩ (.int .i64 0)).setCell ⟨b, 1, none⟩ (.bool false)).setCell ⟨b, 2, none⟩ (.bool false)).setCell ⟨b, 3, none⟩ (.bool false)).setCell ⟨b, 4, none⟩ (.bool false)).setCell ⟨b, 5, none⟩ (.bool false)).setCell ⟨b, 6, none⟩ (.int .i64 0)).setCell ⟨b, 7, none⟩ (.int .i64 0)).setCell ⟨b, 8, none⟩ (.int .i64 0) = wz at q4 qh ⊢
   go_roundw
   case rel => exact ⟨k + 1, by omega, rfl, ⟨fun _ => ⟨v', qh⟩⟩, ⟨(tb_no (by omega : k + 1 ≠ 16)) ▸ q4⟩, ⟨qh.hb⟩⟩
   case measure => simp [intOf]; omega
  by_cases h15 : k = 15
  ·
   subst h15
   have hc15 : ((15 : Nat) : Int) = 15 := rfl
   replace HX := am ((tb_no (by decide : 15 ≠ 16)) ▸ HX.out)
   obtain ⟨v, hC⟩ := HE.out (by omega)
   have HC := am hC
   clear hC HE HB hlt
   go_wp2_with fail
   refine (step_last w wr HT.out g f gr ⟨0, 0, 0, 0, 0, 0, 0, 0, 0⟩ dflt v 0 0 0 0 (mx dflt.band 0) dflt.r dflt.rg 0 false (List.replicate 15 405300) 2048 405300 false HC.out dflt_ok (.inl rfl) d_good d_lost rfl 405300 0 d_mean d_good rfl (fun w _ => by rw [d_alt]; exact out_zero w)).mono ?_
   rintro e wx ⟨v', rfl, hC, hk, _⟩
   have hX := blk_kept HX.out hk (fun hS => by rcases hS with e | e | e | e; exact blk_ne HX.out HC.out.hg (by decide) e; exact blk_ne HX.out HC.out.hf (by decide) e; exact (HC.out.hi.ne_blk HX.out (by decide)) e.symm; exact (Kd.R_ne HC.out.hr HX.out (by decide)) e.symm)
   rw [d_last, d_run] at hC
   have HX2 := am hX
   have HC2 := am hC
   clear hX hC hk
   rw [d_clip]
   unfold toldV
   have y0 := b_v HX2 0 (.int .i64 0) rfl
   have f0 := b_z HX2 0
   have y1 := b_v HX2 1 (.bool false) rfl
   have f1 := b_z HX2 1
   have y2 := b_v HX2 2 (.bool false) rfl
   have f2 := b_z HX2 2
   have y3 := b_v HX2 3 (.bool false) rfl
   have f3 := b_z HX2 3
   have y4 := b_v HX2 4 (.bool false) rfl
   have f4 := b_z HX2 4
   have y5 := b_v HX2 5 (.bool false) rfl
   have f5 := b_z HX2 5
   have y6 := b_v HX2 6 (.int .i64 0) rfl
   have f6 := b_z HX2 6
   have y7 := b_v HX2 7 (.int .i64 0) rfl
   have f7 := b_z HX2 7
   have y8 := b_v HX2 8 (.int .i64 0) rfl
   have f8 := b_z HX2 8
   obtain ⟨q4, qh⟩ := HC2.out.told2 HX2.out HG0.out 1 true true false false false 0 0 0
   go_wp2_with fail
   generalize ((((((((wx.setCell ⟨b, 0, none⟩ (.int .i64 1)).setCell ⟨b, 1, none⟩ (.bool true)).setCell ⟨b, 2, none⟩ (.bool true)).setCell ⟨b, 3, none⟩ (.bool false)).setCell ⟨b, 4, none⟩ (.bool false)).setCell ⟨b, 5, none⟩ (.bool false)).setCell ⟨b, 6, none⟩ (.int .i64 0)).setCell ⟨b, 7, none⟩ (.int .i64 0)).setCell ⟨b, 8, none⟩ (.int .i64 0) = wz at q4 qh ⊢
   go_roundw
   case rel => exact ⟨16, by decide, rfl, ⟨fun h => absurd h (by decide)⟩, ⟨q4⟩, ⟨qh.hb⟩⟩
   case measure => decide
  have h16 : k = 16 := by omega
  subst h16
  have hc16 : ((16 : Nat) : Int) = 16 := rfl
  replace HX := am (show wr.heap[b]? = some (.cells FIN 39 (0, 0)) from HX.out)
  unfold FIN toldV at HX
  have y0 := b_v HX 0 (.int .i64 1) rfl
  have y1 := b_v HX 1 (.bool true) rfl
  have y2 := b_v HX 2 (.bool true) rfl
  have y3 := b_v HX 3 (.bool false) rfl
  have y4 := b_v HX 4 (.bool false) rfl
  have y5 := b_v HX 5 (.bool false) rfl
  have y6 := b_v HX 6 (.int .i64 0) rfl
  have y7 := b_v HX 7 (.int .i64 0) rfl
  have y8 := b_v HX 8 (.int .i64 0) rfl
  clear hlt h15
  go_wp2_with fail
  go_ret
  exact ⟨rfl, HB.out⟩
set_option maxRecDepth 100000 in
set_option maxHeartbeats 4000000 in
theorem clock_any (w0 w : World) (g f gr : Nat) (s : Gs) (c : Cf) (v : Value) (mode since last run band noise rough count : Int) (known : Bool) (l : List Int) (h : Chan w0 w g f gr s c v mode since last run band noise rough count known l) :
  Calls Tryz.prog 14 #[.pointer (some ⟨g, 0, none⟩)] w fun e w' => e = .returned (.tuple #[mode, since]) ∧ Below w.heap.size w w' := by
 have y43 := bcv h.hg 43 (.int .i64 mode) rfl
 have y44 := bcv h.hg 44 (.int .i64 since) rfl
 clear h
 go_enter Tryz.func14, Tryz.ntmps14
 go_upto_region 1 with fail
 go_quiet (fail)
 go_wp2_with fail
 go_ret2
 exact ⟨rfl, pw_below_drewN (Below.refl _ _) _⟩
set_option maxRecDepth 100000 in
set_option maxHeartbeats 4000000 in
theorem state_any (w : World) (x0 x1 x2 p0 p1 p2 p3 p4 p5 : Int) : Calls Tryz.prog 13 #[.agg #[x0, x1, x2, p0, p1, p2, p3, p4, p5]] w fun e w' => e = .returned (.tuple #[vec x0 x1 x2, sym p0 p1 p2 p3 p4 p5]) ∧ Below w.heap.size w w' := by
 unfold vec sym
 go_enter Tryz.func13, Tryz.ntmps13
 go_upto_region 1 with fail
 obtain ⟨x1', x2', x3', hB⟩ := blocks3 w #[x0, x1, x2, p0, p1, p2, p3, p4, p5] #[(), (), ()] #[(), (), (), (), (), ()] 50 26 46
 generalize ((w.alloc (.cells #[x0, x1, x2, p0, p1, p2, p3, p4, p5] 50)).alloc (.cells #[(), (), ()] 26)).alloc (.cells #[(), (), (), (), (), ()] 46) = w1 at x1' x2' x3' hB ⊢
 obtain ⟨b1, h1⟩ := e_x (w.heap.size)
 obtain ⟨b2, h2⟩ := e_x (w.heap.size + 1)
 obtain ⟨b3, h3⟩ := e_x (w.heap.size + 1 + 1)
 have g1 : w.heap.size ≤ b1 := by omega
 have g2 : w.heap.size ≤ b2 := by omega
 have g3 : w.heap.size ≤ b3 := by omega
 have n1_2 : b1 ≠ b2 := by omega
 have n1_3 : b1 ≠ b3 := by omega
 have n2_1 : b2 ≠ b1 := by omega
 have n2_3 : b2 ≠ b3 := by omega
 have n3_1 : b3 ≠ b1 := by omega
 have n3_2 : b3 ≠ b2 := by omega
 rw [← h3, ← h2, ← h1]
 rw [← h3] at x3'
 rw [← h2] at x2'
 rw [← h1] at x1'
 have H1 := am x1'
 have H2 := am x2'
 have H3 := am x3'
 have HB := am hB
 clear x1' x2' x3' hB h1 h2 h3
 have y10 := b_v H1 0 (.int .i64 x0) rfl
 have y11 := b_v H1 1 (.int .i64 x1) rfl
 have y12 := b_v H1 2 (.int .i64 x2) rfl
 have y13 := b_v H1 3 (.int .i64 p0) rfl
 have y14 := b_v H1 4 (.int .i64 p1) rfl
 have y15 := b_v H1 5 (.int .i64 p2) rfl
 have y16 := b_v H1 6 (.int .i64 p3) rfl
 have y17 := b_v H1 7 (.int .i64 p4) rfl
 have y18 := b_v H1 8 (.int .i64 p5) rfl
 have y20 := b_v H2 0 (.int .i64 0) rfl
 have f20 := b_z H2 0
 have y21 := b_v H2 1 (.int .i64 0) rfl
 have f21 := b_z H2 1
 have y22 := b_v H2 2 (.int .i64 0) rfl
 have f22 := b_z H2 2
 have y30 := b_v H3 0 (.int .i64 0) rfl
 have f30 := b_z H3 0
 have y31 := b_v H3 1 (.int .i64 0) rfl
 have f31 := b_z H3 1
 have y32 := b_v H3 2 (.int .i64 0) rfl
 have f32 := b_z H3 2
 have y33 := b_v H3 3 (.int .i64 0) rfl
 have f33 := b_z H3 3
 have y34 := b_v H3 4 (.int .i64 0) rfl
 have f34 := b_z H3 4
 have y35 := b_v H3 5 (.int .i64 0) rfl
 have f35 := b_z H3 5
 go_region
 obtain ⟨q2, qb2⟩ := three_set rfl H2.out g2 HB.out (.int .i64 x0) (.int .i64 x1) (.int .i64 x2)
 obtain ⟨q3, qb3⟩ := six_set rfl (blk_far (blk_far (blk_far H3.out (p := ⟨b2, 0, none⟩) n3_2 (.int .i64 x0)) (p := ⟨b2, 1, none⟩) n3_2 (.int .i64 x1)) (p := ⟨b2, 2, none⟩) n3_2 (.int .i64 x2)) g3 qb2 (.int .i64 p0) (.int .i64 p1) (.int .i64 p2) (.int .i64 p3) (.int .i64 p4) (.int .i64 p5)
 have q2' := (blk_far (blk_far (blk_far (blk_far (blk_far (blk_far q2 (p := ⟨b3, 0, none⟩) n2_3 (.int .i64 p0)) (p := ⟨b3, 1, none⟩) n2_3 (.int .i64 p1)) (p := ⟨b3, 2, none⟩) n2_3 (.int .i64 p2)) (p := ⟨b3, 3, none⟩) n2_3 (.int .i64 p3)) (p := ⟨b3, 4, none⟩) n2_3 (.int .i64 p4)) (p := ⟨b3, 5, none⟩) n2_3 (.int .i64 p5))
 replace q2' := blk_drew q2'
 replace q3 := blk_drew q3
 replace qb3 := below_drew qb3
 go_wp2_with fail
 exact bodyPost_ret (results_cc rfl _ _ b2 b3 26 46 _ _ (0, 0) (0, 0) _ _ rfl q2' Tryz.underlying26 rfl (by kernel_rfl) rfl q3 Tryz.underlying46 rfl (by kernel_rfl)) rfl ⟨rfl, qb3⟩
end Go.Proofs.YtpdahkgandaabaaGreatDoor.Ch
namespace Go.Proofs.YtpdahkgandaabaaGreatDoor.PDoc
open Go.RowKit Go.Proofs.YtpdahkgandaabaaGreatDoorW.PrintWords Go.Proofs.YtpdahkgandaabaaGreatDoorW.PrintLast Go.Proofs.YtpdahkgandaabaaGreatDoorW.PrintMore
attribute [local go_sem] max2_int min2_int max_two min_two max_three min_three max_four min_four
set_option linter.unusedVariables false
set_option linter.unusedSimpArgs false
theorem info122 : (Tryz.prog.info? 122).map (fun i => (i.zero, i.size, i.bytes)) = some (some (.int .u64 0), 1, 8) := by kernel_rfl
def aneroidref06_Good.f (a0 : Int) : Option (Bool) := if a0 > 90527 then (some (decide (a0 < 430516))) else (some false)
set_option maxHeartbeats 8000000 in
set_option maxRecDepth 100000 in
theorem aneroidref06_Good.calls (a0 : Int) (r : Bool) (w : World) (h : aneroidref06_Good.f a0 = some r) :
  Calls Tryz.prog 8 #[a0] w fun e w' => e = .returned (.bool r) ∧ Drawn0 w w' := by
 have H : (if a0 > 90527 then (some (decide (a0 < 430516))) else (some false)) = some r := h
 clear h
 by_cases c2 : a0 > 90527
 ·
  rw [if_pos c2] at H
  have c2b0 : decide (90527 < a0) = true := decide_eq_true c2
  clear c2
  obtain rfl := Option.some.inj H
  go_enter Tryz.func8, Tryz.ntmps8
  go_wp2
  go_ret
  exact f_0
 rw [if_neg c2] at H
 have c2b0 : decide (90527 < a0) = false := decide_eq_false c2
 clear c2
 obtain rfl := Option.some.inj H
 go_enter Tryz.func8, Tryz.ntmps8
 go_wp2
 go_ret
 exact f_0
def aneroidref06_Table.f  : Option (List Int) := some (([430515, 417754, 405300, 393149, 381294, 369731, 358453, 347455, 336732, 326279, 316090, 306161, 296485, 287058, 277876, 268933, 260224, 251746, 243492, 235459, 227641, 220036, 212637, 205441, 198444, 191640, 185027, 178600, 172355, 166288, 160395, 154672, 149116, 143723, 138488, 133409, 128482, 123703, 119069, 114577, 110223, 106004, 101917, 97958, 94125, 90414, 86822] : List Int))
set_option maxHeartbeats 8000000 in
set_option maxRecDepth 100000 in
theorem aneroidref06_Table.calls  (r : List Int) (w : World) (h : aneroidref06_Table.f  = some r) :
  Calls Tryz.prog 31 #[] w fun e w' => ∃ v0_ : Value, e = .returned (v0_) ∧ Kd.R (Kd.int .i64) 2 w' w.heap.size (fun _ => True) v0_ r ∧ Below w.heap.size w w' := by
 have HB := am (Below.refl w.heap.size w)
 have H : (some (([430515, 417754, 405300, 393149, 381294, 369731, 358453, 347455, 336732, 326279, 316090, 306161, 296485, 287058, 277876, 268933, 260224, 251746, 243492, 235459, 227641, 220036, 212637, 205441, 198444, 191640, 185027, 178600, 172355, 166288, 160395, 154672, 149116, 143723, 138488, 133409, 128482, 123703, 119069, 114577, 110223, 106004, 101917, 97958, 94125, 90414, 86822] : List Int))) = some r := h
 clear h
 obtain ⟨y116, hy116⟩ : ∃ y_ : List Int, y_ = (([430515, 417754, 405300, 393149, 381294, 369731, 358453, 347455, 336732, 326279, 316090, 306161, 296485, 287058, 277876, 268933, 260224, 251746, 243492, 235459, 227641, 220036, 212637, 205441, 198444, 191640, 185027, 178600, 172355, 166288, 160395, 154672, 149116, 143723, 138488, 133409, 128482, 123703, 119069, 114577, 110223, 106004, 101917, 97958, 94125, 90414, 86822] : List Int)) := ⟨_, rfl⟩
 replace H : (some y116) = some r := by first | (rw [hy116]; with_reducible exact H) | (have H2_ := (Option.bind_some _ _).symm.trans H; rw [hy116]; with_reducible exact H2_) | (have H2_ := (Option.bind_some _ _).symm.trans H; with_reducible exact H2_) | with_reducible exact H | (rw [hy116]; exact H) | exact H
 have Ny116 := am hy116
 clear hy116
 obtain rfl := Option.some.inj H
 go_enter Tryz.func31, Tryz.ntmps31
 go_wp2_with (first | ((with_reducible refine gate_dst (N := 1) rfl ?_); refine Kd.R_lit (Kd.int .i64) _ 2 ?hg (N := 1) ?hd (xs := ([430515, 417754, 405300, 393149, 381294, 369731, 358453, 347455, 336732, 326279, 316090, 306161, 296485, 287058, 277876, 268933, 260224, 251746, 243492, 235459, 227641, 220036, 212637, 205441, 198444, 191640, 185027, 178600, 172355, 166288, 160395, 154672, 149116, 143723, 138488, 133409, 128482, 123703, 119069, 114577, 110223, 106004, 101917, 97958, 94125, 90414, 86822] : List Int)) (inner := [.int .i64 430515, .int .i64 417754, .int .i64 405300, .int .i64 393149, .int .i64 381294, .int .i64 369731, .int .i64 358453, .int .i64 347455, .int .i64 336732, .int .i64 326279, .int .i64 316090, .int .i64 306161, .int .i64 296485, .int .i64 287058, .int .i64 277876, .int .i64 268933, .int .i64 260224, .int .i64 251746, .int .i64 243492, .int .i64 235459, .int .i64 227641, .int .i64 220036, .int .i64 212637, .int .i64 205441, .int .i64 198444, .int .i64 191640, .int .i64 185027, .int .i64 178600, .int .i64 172355, .int .i64 166288, .int .i64 160395, .int .i64 154672, .int .i64 149116, .int .i64 143723, .int .i64 138488, .int .i64 133409, .int .i64 128482, .int .i64 123703, .int .i64 119069, .int .i64 114577, .int .i64 110223, .int .i64 106004, .int .i64 101917, .int .i64 97958, .int .i64 94125, .int .i64 90414, .int .i64 86822]) (ok := fun _ => True) (okp := fun _ => True) ?hr ?hp (fun _ hk => hk) trivial (Below.refl _ _) (Nat.le_refl _) (by simp) ?_; (case hd => rfl); (case hg => rfl); (case hr => first | (go_simp; done) | (go_simp; rfl)); (case hp => exact (Reps.one (show Kd.M (Kd.int .i64) _ _ _ 430515 [.int .i64 430515] from rfl) (Reps.one (show Kd.M (Kd.int .i64) _ _ _ 417754 [.int .i64 417754] from rfl) (Reps.one (show Kd.M (Kd.int .i64) _ _ _ 405300 [.int .i64 405300] from rfl) (Reps.one (show Kd.M (Kd.int .i64) _ _ _ 393149 [.int .i64 393149] from rfl) (Reps.one (show Kd.M (Kd.int .i64) _ _ _ 381294 [.int .i64 381294] from rfl) (Reps.one (show Kd.M (Kd.int .i64) _ _ _ 369731 [.int .i64 369731] from rfl) (Reps.one (show Kd.M (Kd.int .i64) _ _ _ 358453 [.int .i64 358453] from rfl) (Reps.one (show Kd.M (Kd.int .i64) _ _ _ 347455 [.int .i64 347455] from rfl) (Reps.one (show Kd.M (Kd.int .i64) _ _ _ 336732 [.int .i64 336732] from rfl) (Reps.one (show Kd.M (Kd.int .i64) _ _ _ 326279 [.int .i64 326279] from rfl) (Reps.one (show Kd.M (Kd.int .i64) _ _ _ 316090 [.int .i64 316090] from rfl) (Reps.one (show Kd.M (Kd.int .i64) _ _ _ 306161 [.int .i64 306161] from rfl) (Reps.one (show Kd.M (Kd.int .i64) _ _ _ 296485 [.int .i64 296485] from rfl) (Reps.one (show Kd.M (Kd.int .i64) _ _ _ 287058 [.int .i64 287058] from rfl) (Reps.one (show Kd.M (Kd.int .i64) _ _ _ 277876 [.int .i64 277876] from rfl) (Reps.one (show Kd.M (Kd.int .i64) _ _ _ 268933 [.int .i64 268933] from rfl) (Reps.one (show Kd.M (Kd.int .i64) _ _ _ 260224 [.int .i64 260224] from rfl) (Reps.one (show Kd.M (Kd.int .i64) _ _ _ 251746 [.int .i64 251746] from rfl) (Reps.one (show Kd.M (Kd.int .i64) _ _ _ 243492 [.int .i64 243492] from rfl) (Reps.one (show Kd.M (Kd.int .i64) _ _ _ 235459 [.int .i64 235459] from rfl) (Reps.one (show Kd.M (Kd.int .i64) _ _ _ 227641 [.int .i64 227641] from rfl) (Reps.one (show Kd.M (Kd.int .i64) _ _ _ 220036 [.int .i64 220036] from rfl) (Reps.one (show Kd.M (Kd.int .i64) _ _ _ 212637 [.int .i64 212637] from rfl) (Reps.one (show Kd.M (Kd.int .i64) _ _ _ 205441 [.int .i64 205441] from rfl) (Reps.one (show Kd.M (Kd.int .i64) _ _ _ 198444 [.int .i64 198444] from rfl) (Reps.one (show Kd.M (Kd.int .i64) _ _ _ 191640 [.int .i64 191640] from rfl) (Reps.one (show Kd.M (Kd.int .i64) _ _ _ 185027 [.int .i64 185027] from rfl) (Reps.one (show Kd.M (Kd.int .i64) _ _ _ 178600 [.int .i64 178600] from rfl) (Reps.one (show Kd.M (Kd.int .i64) _ _ _ 172355 [.int .i64 172355] from rfl) (Reps.one (show Kd.M (Kd.int .i64) _ _ _ 166288 [.int .i64 166288] from rfl) (Reps.one (show Kd.M (Kd.int .i64) _ _ _ 160395 [.int .i64 160395] from rfl) (Reps.one (show Kd.M (Kd.int .i64) _ _ _ 154672 [.int .i64 154672] from rfl) (Reps.one (show Kd.M (Kd.int .i64) _ _ _ 149116 [.int .i64 149116] from rfl) (Reps.one (show Kd.M (Kd.int .i64) _ _ _ 143723 [.int .i64 143723] from rfl) (Reps.one (show Kd.M (Kd.int .i64) _ _ _ 138488 [.int .i64 138488] from rfl) (Reps.one (show Kd.M (Kd.int .i64) _ _ _ 133409 [.int .i64 133409] from rfl) (Reps.one (show Kd.M (Kd.int .i64) _ _ _ 128482 [.int .i64 128482] from rfl) (Reps.one (show Kd.M (Kd.int .i64) _ _ _ 123703 [.int .i64 123703] from rfl) (Reps.one (show Kd.M (Kd.int .i64) _ _ _ 119069 [.int .i64 119069] from rfl) (Reps.one (show Kd.M (Kd.int .i64) _ _ _ 114577 [.int .i64 114577] from rfl) (Reps.one (show Kd.M (Kd.int .i64) _ _ _ 110223 [.int .i64 110223] from rfl) (Reps.one (show Kd.M (Kd.int .i64) _ _ _ 106004 [.int .i64 106004] from rfl) (Reps.one (show Kd.M (Kd.int .i64) _ _ _ 101917 [.int .i64 101917] from rfl) (Reps.one (show Kd.M (Kd.int .i64) _ _ _ 97958 [.int .i64 97958] from rfl) (Reps.one (show Kd.M (Kd.int .i64) _ _ _ 94125 [.int .i64 94125] from rfl) (Reps.one (show Kd.M (Kd.int .i64) _ _ _ 90414 [.int .i64 90414] from rfl) (Reps.one (show Kd.M (Kd.int .i64) _ _ _ 86822 [.int .i64 86822] from rfl) (Reps.none _ _))))))))))))))))))))))))))))))))))))))))))))))))); intro v117 w1 ho2 hb hg_ hnew_; clear hg_ hnew_; (first | rw [← Ny116.out] at ho2 | (simp only [Int.reduceToNat] at ho2; rw [← Ny116.out] at ho2)); have n0_ := am (Kd.R_lower ho2 (below_size (b_R))); have n1_ := am (below_step (b_R) hb); clear HB; have HO118 := n0_; have HB := n1_; clear n0_ n1_; clear hb ho2))
 go_ret
 exact ⟨_, by first | rfl | (simp [errW_none, errW_some] <;> rfl) | (simp [*, errW_none, errW_some] <;> rfl), by (with_reducible repeat (first | apply Kd.R_alloc | apply Kd.R_drewN | apply Kd.R_drew)); exact HO118.out, b_R⟩
def aneroidref01_digit.f (l0 : List Int) (a1 : Int) : Option (Int) := if a1 < (l0.length : Int) then (if 0 ≤ a1 then (some (rd l0 a1)) else (none)) else (some 0)
set_option maxHeartbeats 8000000 in
set_option maxRecDepth 100000 in
theorem aneroidref01_digit.calls (A0 : Option Addr) (c0 : Nat) (l0 : List Int) (a1 : Int) (r : Int) (w : World) (hr0 : Kd.C (Kd.int .u64) w A0 l0.length l0) (hc0 : l0.length ≤ c0) (h : aneroidref01_digit.f l0 a1 = some r) :
  Calls Tryz.prog 81 #[.slice A0 l0.length c0, a1] w fun e w' => e = .returned (.int .u64 r) ∧ Drawn0 w w' := by
 have HR0 := am hr0
 have HC0 := am hc0
 clear hr0 hc0
 have H : (if a1 < (l0.length : Int) then (if 0 ≤ a1 then (some (rd l0 a1)) else (none)) else (some 0)) = some r := h
 clear h
 by_cases c3 : a1 < (l0.length : Int)
 ·
  rw [if_pos c3] at H
  have c3b0 : decide (a1 < (l0.length : Int)) = true := decide_eq_true c3
  clear c3
  by_cases c4 : 0 ≤ a1
  ·
   rw [if_pos c4] at H
   have c4b0 : decide (0 ≤ a1) = true := decide_eq_true c4
   clear c4
   obtain rfl := Option.some.inj H
   have p119 : 0 ≤ (a1 : Int) := of_decide_eq_true (by first | (with_reducible assumption) | assumption)
   have q119 : a1 < (l0.length : Int) := of_decide_eq_true (by first | (with_reducible assumption) | assumption)
   obtain ⟨ad119, e119, hx119_0⟩ := Kd.at_int HR0.out a1 p119 q119
   cases e119
   replace p119 := eq_true p119
   replace q119 := eq_true q119
   go_enter Tryz.func81, Tryz.ntmps81
   go_wp2
   go_ret
   exact f_0
  rw [if_neg c4] at H
  exact absurd H (by simp)
 rw [if_neg c3] at H
 have c3b0 : decide (a1 < (l0.length : Int)) = false := decide_eq_false c3
 clear c3
 obtain rfl := Option.some.inj H
 go_enter Tryz.func81, Tryz.ntmps81
 go_wp2
 go_ret
 exact f_0
mutual
def aneroidref01_sum.l0 : Nat → List Int → List Int → List Int → Int → Int → Option (List Int)
 | 0, _, _, _, _, _ => none
 | k + 1, x0, x1, x5, x6, x7 => if x7 < (x0.length : Int) then (aneroidref01_sum.j1 k x0 x1 x5 x6 x7 true) else (if x7 < (x1.length : Int) then (aneroidref01_sum.j1 k x0 x1 x5 x6 x7 true) else (aneroidref01_sum.j1 k x0 x1 x5 x6 x7 (decide (x6 > 0))))
def aneroidref01_sum.j1 : Nat → List Int → List Int → List Int → Int → Int → Bool → Option (List Int)
 | 0, _, _, _, _, _, _ => none
 | k + 1, x0, x1, x5, x6, x7, x23 => if x23 = true then ((aneroidref01_digit.f x0 x7).bind fun t123 => ((aneroidref01_digit.f x1 x7).bind fun t124 => (if x5.length < 17592186044416 then (aneroidref01_sum.l0 k x0 x1 (x5 ++ [Int.tmod (IntKind.u64.wrap ((IntKind.u64.wrap (t123 + t124)) + x6)) 65536]) (IntKind.u64.wrap (Int.tdiv (IntKind.u64.wrap ((IntKind.u64.wrap (t123 + t124)) + x6)) 65536)) (wrap64 (x7 + 1))) else (none)))) else (some x5)
end
def aneroidref01_sum.f (k : Nat) (l0 : List Int) (l1 : List Int) : Option (List Int) := aneroidref01_sum.l0 k l0 l1 (([] : List Int)) 0 0
set_option maxHeartbeats 8000000 in
set_option maxRecDepth 100000 in
theorem aneroidref01_sum.calls (k : Nat) (A0 : Option Addr) (c0 : Nat) (l0 : List Int) (A1 : Option Addr) (c1 : Nat) (l1 : List Int) (r : List Int) (w : World) (hr0 : Kd.C (Kd.int .u64) w A0 l0.length l0) (hc0 : l0.length ≤ c0) (hr1 : Kd.C (Kd.int .u64) w A1 l1.length l1) (hc1 : l1.length ≤ c1) (h : aneroidref01_sum.f k l0 l1 = some r) :
  Calls Tryz.prog 82 #[.slice A0 l0.length c0, .slice A1 l1.length c1] w fun e w' => ∃ v0_ : Value, e = .returned (v0_) ∧ Kd.R (Kd.int .u64) 122 w' w.heap.size (fun _ => True) v0_ r ∧ Below w.heap.size w w' := by
 have HR0 := am hr0
 have HC0 := am hc0
 clear hr0 hc0
 have HR1 := am hr1
 have HC1 := am hc1
 clear hr1 hc1
 have HB := am (Below.refl w.heap.size w)
 have H : (aneroidref01_sum.l0 k l0 l1 (([] : List Int)) 0 0) = some r := h
 clear h
 obtain ⟨y120, hy120⟩ : ∃ y_ : List Int, y_ = (([] : List Int)) := ⟨_, rfl⟩
 replace H : (aneroidref01_sum.l0 k l0 l1 y120 0 0) = some r := by first | (rw [hy120]; with_reducible exact H) | (have H2_ := (Option.bind_some _ _).symm.trans H; rw [hy120]; with_reducible exact H2_) | (have H2_ := (Option.bind_some _ _).symm.trans H; with_reducible exact H2_) | with_reducible exact H | (rw [hy120]; exact H) | exact H
 have Ny120 := am hy120
 clear hy120
 have H' := am H
 clear H
 go_enter Tryz.func82, Tryz.ntmps82
 go_wp2_with (first | ((with_reducible refine gate_dst (N := 9) rfl ?_); (try (refine gate_guard (by rfl) ?_; dsimp only)); refine Kd.R_lit (Kd.int .u64) _ 122 ?hg (N := 9) ?hd (xs := ([] : List Int)) (inner := []) (ok := fun _ => True) (okp := fun _ => True) ?hr ?hp (fun _ hk => hk) trivial (Below.refl _ _) (Nat.le_refl _) (by simp) ?_; (case hd => rfl); (case hg => rfl); (case hr => first | (go_simp; done) | (go_simp; rfl)); (case hp => exact (Reps.none _ _)); intro v121 w3 ho4 hb hg_ hnew_; clear hg_ hnew_; (first | rw [← Ny120.out] at ho4 | (simp only [Int.reduceToNat] at ho4; rw [← Ny120.out] at ho4)); have n0_ := am (Kd.R_lower ho4 (below_size (b_R))); have n1_ := am (below_step (b_R) hb); clear HB; have HO122 := n0_; have HB := n1_; clear n0_ n1_; clear hb ho4))
 go_loopg [5, 6, 7] k (fun kq v5 v6 v7 w' => ∃ (x5_1 : List Int) (x6_1 : Int) (x7_1 : Int), v6 = .int .u64 x6_1 ∧ v7 = .int .i64 x7_1 ∧ Aside0 (aneroidref01_sum.l0 kq l0 l1 x5_1 x6_1 x7_1 = some r) ∧ Aside0 (kq ≤ k) ∧ Aside0 (Kd.R (Kd.int .u64) 122 w' w.heap.size (fun _ => True) v5 x5_1) ∧ Aside0 (Below w.heap.size w w'))
 case atStart => exact ⟨(y120), (0), (0), (by first | rfl | (simp; done) | (simp [*]; done)), (by first | rfl | (simp; done) | (simp [*]; done)), H', ⟨Nat.le_refl _⟩, ⟨by (with_reducible repeat (first | apply Kd.R_alloc | apply Kd.R_drewN | apply Kd.R_drew)); exact HO122.out⟩, ⟨b_R⟩⟩
 case round =>
  clear H'
  try clear c1
  try clear p2
  try clear c3
  obtain ⟨x5_1, x6_1, x7_1, rfl, rfl, HA, HK1, HO_5, HB⟩ := hrel
  cases gk with
  | zero => exact absurd HA.out (by simp [aneroidref01_sum.l0])
  | succ k1 =>
   have H := HA.out
   clear HA
   simp only [aneroidref01_sum.l0] at H
   have HC5 := am H
   clear H
   go_upto_region 4 with (fail)
   go_cut [23] (fun v23 wc => ∃ (kq : Nat) (x23_4 : Bool), v23 = .bool x23_4 ∧ Aside0 (aneroidref01_sum.j1 kq l0 l1 x5_1 x6_1 x7_1 x23_4 = some r) ∧ Aside0 (kq ≤ k1) ∧ Aside0 (Kd.R (Kd.int .u64) 122 wc w.heap.size (fun _ => True) u5 x5_1) ∧ Aside0 (Below w.heap.size w wc))
   case first =>
    have H := HC5.out
    clear HC5
    by_cases c6 : x7_1 < (l0.length : Int)
    ·
     rw [if_pos c6] at H
     have c6b0 : decide (x7_1 < (l0.length : Int)) = true := decide_eq_true c6
     clear c6
     (first | rw [c6b0] | (simp only [i64_w, i32_w]; rw [c6b0]) | skip)
     have H' := am H
     clear H
     go_wp2
     go_meet
     case rel => exact ⟨_, (true), (by first | rfl | (simp; done) | (simp [*]; done)), H', ⟨by have := HK1.out; first | omega | exact Nat.le_refl _⟩, ⟨by (with_reducible repeat (first | apply Kd.R_alloc | apply Kd.R_drewN | apply Kd.R_drew)); exact HO_5.out⟩, ⟨b_R⟩⟩
    rw [if_neg c6] at H
    have c6b0 : decide (x7_1 < (l0.length : Int)) = false := decide_eq_false c6
    clear c6
    (first | rw [c6b0] | (simp only [i64_w, i32_w]; rw [c6b0]) | skip)
    by_cases c7 : x7_1 < (l1.length : Int)
    ·
     rw [if_pos c7] at H
     have c7b0 : decide (x7_1 < (l1.length : Int)) = true := decide_eq_true c7
     clear c7
     have H' := am H
     clear H
     go_wp2
     go_meet
     case rel => exact ⟨_, (true), (by first | rfl | (simp; done) | (simp [*]; done)), H', ⟨by have := HK1.out; first | omega | exact Nat.le_refl _⟩, ⟨by (with_reducible repeat (first | apply Kd.R_alloc | apply Kd.R_drewN | apply Kd.R_drew)); exact HO_5.out⟩, ⟨b_R⟩⟩
    rw [if_neg c7] at H
    have c7b0 : decide (x7_1 < (l1.length : Int)) = false := decide_eq_false c7
    clear c7
    have H' := am H
    clear H
    go_wp2
    go_meet
    case rel => exact ⟨_, (decide (x6_1 > 0)), (by first | rfl | (simp; done) | (simp [*]; done)), H', ⟨by have := HK1.out; first | omega | exact Nat.le_refl _⟩, ⟨by (with_reducible repeat (first | apply Kd.R_alloc | apply Kd.R_drewN | apply Kd.R_drew)); exact HO_5.out⟩, ⟨b_R⟩⟩
   case rest =>
    clear HC5
    try clear c1
    try clear p2
    try clear c3
    try clear c6
    try clear c6b0
    try clear c7
    try clear c7b0
    try clear p2
    obtain ⟨kq, x23_4, rfl, HA, HJ4, HO_5, HB⟩ := hcut
    cases kq with
    | zero => exact absurd HA.out (by simp [aneroidref01_sum.j1])
    | succ kj4 =>
     have H := HA.out
     clear HA
     simp only [aneroidref01_sum.j1] at H
     by_cases c8 : x23_4 = true
     ·
      subst c8
      have H1 : ((aneroidref01_digit.f l0 x7_1).bind fun t123 => ((aneroidref01_digit.f l1 x7_1).bind fun t124 => (if x5_1.length < 17592186044416 then (aneroidref01_sum.l0 kj4 l0 l1 (x5_1 ++ [Int.tmod (IntKind.u64.wrap ((IntKind.u64.wrap (t123 + t124)) + x6_1)) 65536]) (IntKind.u64.wrap (Int.tdiv (IntKind.u64.wrap ((IntKind.u64.wrap (t123 + t124)) + x6_1)) 65536)) (wrap64 (x7_1 + 1))) else (none)))) = some r := by rw [if_pos rfl] at H; exact H
      clear H
      have H := H1
      clear H1
      replace H := Option.bind_eq_some_iff.mp H
      obtain ⟨t123, A90, H⟩ := H
      replace H : ((aneroidref01_digit.f l1 x7_1).bind fun t124 => (if x5_1.length < 17592186044416 then (aneroidref01_sum.l0 kj4 l0 l1 (x5_1 ++ [Int.tmod (IntKind.u64.wrap ((IntKind.u64.wrap (t123 + t124)) + x6_1)) 65536]) (IntKind.u64.wrap (Int.tdiv (IntKind.u64.wrap ((IntKind.u64.wrap (t123 + t124)) + x6_1)) 65536)) (wrap64 (x7_1 + 1))) else (none))) = some r := H
      have A9 := am A90
      clear A90
      replace H := Option.bind_eq_some_iff.mp H
      obtain ⟨t124, A100, H⟩ := H
      replace H : (if x5_1.length < 17592186044416 then (aneroidref01_sum.l0 kj4 l0 l1 (x5_1 ++ [Int.tmod (IntKind.u64.wrap ((IntKind.u64.wrap (t123 + t124)) + x6_1)) 65536]) (IntKind.u64.wrap (Int.tdiv (IntKind.u64.wrap ((IntKind.u64.wrap (t123 + t124)) + x6_1)) 65536)) (wrap64 (x7_1 + 1))) else (none)) = some r := H
      have A10 := am A100
      clear A100
      by_cases c11 : x5_1.length < 17592186044416
      ·
       rw [if_pos c11] at H
       have LMc11 := am c11
       clear c11
       obtain ⟨y125, hy125⟩ : ∃ y_ : List Int, y_ = (x5_1 ++ [Int.tmod (IntKind.u64.wrap ((IntKind.u64.wrap (t123 + t124)) + x6_1)) 65536]) := ⟨_, rfl⟩
       replace H : (aneroidref01_sum.l0 kj4 l0 l1 y125 (IntKind.u64.wrap (Int.tdiv (IntKind.u64.wrap ((IntKind.u64.wrap (t123 + t124)) + x6_1)) 65536)) (wrap64 (x7_1 + 1))) = some r := by first | (rw [hy125]; with_reducible exact H) | (have H2_ := (Option.bind_some _ _).symm.trans H; rw [hy125]; with_reducible exact H2_) | (have H2_ := (Option.bind_some _ _).symm.trans H; with_reducible exact H2_) | with_reducible exact H | (rw [hy125]; exact H) | exact H
       have Ny125 := am hy125
       clear hy125
       have H' := am H
       clear H
       go_wp2_with (first | ((with_reducible refine gate_callee (f := 81) rfl ?_); refine g_L 28 Tryz.func81 #[.slice A0 l0.length c0, x7_1] ?_; (with_reducible refine (aneroidref01_digit.calls _ _ l0 x7_1 t123 _ ?side1 ?side2 A9.out).mono ?_); (case side1 => repeat (first | exact (Kd.C_below HR0.out HB.out) | (with_reducible refine Kd.C_alloc ?_ _) | (with_reducible refine Kd.C_drewN ?_ _) | (with_reducible refine Kd.C_drew ?_))); (case side2 => exact HC0.out); rintro e w' ⟨rfl, ⟨nd, rfl⟩⟩; refine ⟨_, rfl, ?_⟩) | ((with_reducible refine gate_callee (f := 81) rfl ?_); refine g_L 31 Tryz.func81 #[.slice A1 l1.length c1, x7_1] ?_; (with_reducible refine (aneroidref01_digit.calls _ _ l1 x7_1 t124 _ ?side1 ?side2 A10.out).mono ?_); (case side1 => repeat (first | exact (Kd.C_below HR1.out (b_R)) | (with_reducible refine Kd.C_alloc ?_ _) | (with_reducible refine Kd.C_drewN ?_ _) | (with_reducible refine Kd.C_drew ?_))); (case side2 => exact HC1.out); rintro e w' ⟨rfl, ⟨nd, rfl⟩⟩; refine ⟨_, rfl, ?_⟩) | ((with_reducible refine gate_builtin (b := .append) (xs := #[.tmp 35, .tmp 38]) rfl ?_); (try (refine gate_guard (by rfl) ?_; dsimp only)); at_builtin; refine Kd.R_append (Kd.int .u64) (w0 := w) w.heap.size rfl (.tmp 35) (.tmp 38) 83 122 (.int .u64 0) 8 rfl Tryz.underlying83 info122 rfl (by decide) (by omega) u5 x5_1 (Int.tmod (IntKind.u64.wrap ((IntKind.u64.wrap (t123 + t124)) + x6_1)) 65536) [.int .u64 (Int.tmod (IntKind.u64.wrap ((IntKind.u64.wrap (t123 + t124)) + x6_1)) 65536)] (fun _ => True) (fun _ => False) rfl rfl ?aP (fun _ hk => hk.elim) ?aF ?aO ?aB ?aS ?aL ?_; (case aP => exact rfl); (case aB => exact (b_R)); (case aF => exact (fun _ _ => trivial)); (case aO => exact (by (with_reducible repeat (first | apply Kd.R_alloc | apply Kd.R_drewN | apply Kd.R_drew)); exact HO_5.out)); (case aS => exact (below_size (b_R))); (case aL => have := LMc11.out; omega); intro v126 w12 ho hb hg hat; rw [← Ny125.out] at ho; have n0_ := am (hb); have n1_ := am (ho); clear HB; clear HO_5; have HB := n0_; have HO127 := n1_; clear n0_ n1_; clear ho hb hg hat))
       go_roundg kj4
       case measure => have := HK1.out; have := HJ4.out; omega
       case rel => exact ⟨(y125), (IntKind.u64.wrap (Int.tdiv (IntKind.u64.wrap ((IntKind.u64.wrap (t123 + t124)) + x6_1)) 65536)), (wrap64 (x7_1 + 1)), (by first | rfl | (simp; done) | (simp [*]; done)), (by first | rfl | (simp; done) | (simp [*]; done)), H', ⟨by have := HK1.out; have := HJ4.out; omega⟩, ⟨by (with_reducible repeat (first | apply Kd.R_alloc | apply Kd.R_drewN | apply Kd.R_drew)); exact HO127.out⟩, ⟨b_R⟩⟩
      rw [if_neg c11] at H
      exact absurd H (by simp)
     replace c8 := Bool.eq_false_iff.mpr c8
     subst c8
     have H1 : (some x5_1) = some r := by rw [if_neg (show ¬ (false = true) by decide)] at H; exact H
     clear H
     have H := H1
     clear H1
     obtain rfl := Option.some.inj H
     go_wp2
     go_ret
     exact ⟨_, by first | rfl | (simp [errW_none, errW_some] <;> rfl) | (simp [*, errW_none, errW_some] <;> rfl), by (with_reducible repeat (first | apply Kd.R_alloc | apply Kd.R_drewN | apply Kd.R_drew)); exact HO_5.out, b_R⟩
mutual
def aneroidref01_Power.l0 : Nat → Int → List Int → Int → Option (Bool × List Int)
 | 0, _, _, _ => none
 | k + 1, x0, x3, x4 => if x4 < (wrap64 (Int.tdiv x0 16)) then (if x3.length < 17592186044416 then (aneroidref01_Power.l0 k x0 (x3 ++ [0]) (wrap64 (x4 + 1))) else (none)) else (aneroidref01_Power.l1 k x0 x3 1 0)
def aneroidref01_Power.l1 : Nat → Int → List Int → Int → Int → Option (Bool × List Int)
 | 0, _, _, _, _ => none
 | k + 1, x0, x3, x5, x6 => if x6 < (Int.tmod x0 16) then (aneroidref01_Power.l1 k x0 x3 (IntKind.u64.wrap (2 * x5)) (wrap64 (x6 + 1))) else (if x3.length < 17592186044416 then (some (false, (x3 ++ [x5]))) else (none))
end
def aneroidref01_Power.f (k : Nat) (a0 : Int) : Option (Bool × List Int) := aneroidref01_Power.l0 k a0 (([] : List Int)) 0
set_option maxHeartbeats 8000000 in
set_option maxRecDepth 100000 in
theorem aneroidref01_Power.calls (k : Nat) (a0 : Int) (r1 : Bool) (r2 : List Int) (w : World) (h : aneroidref01_Power.f k a0 = some (r1, r2)) :
  Calls Tryz.prog 34 #[a0] w fun e w' => ∃ v1_ : Value, e = .returned (.agg #[.bool r1, v1_]) ∧ Kd.R (Kd.int .u64) 122 w' w.heap.size (fun _ => True) v1_ r2 ∧ Below w.heap.size w w' := by
 have hu55 := Tryz.underlying85
 have HB := am (Below.refl w.heap.size w)
 have H : (aneroidref01_Power.l0 k a0 (([] : List Int)) 0) = some (r1, r2) := h
 clear h
 obtain ⟨y161, hy161⟩ : ∃ y_ : List Int, y_ = (([] : List Int)) := ⟨_, rfl⟩
 replace H : (aneroidref01_Power.l0 k a0 y161 0) = some (r1, r2) := by first | (rw [hy161]; with_reducible exact H) | (have H2_ := (Option.bind_some _ _).symm.trans H; rw [hy161]; with_reducible exact H2_) | (have H2_ := (Option.bind_some _ _).symm.trans H; with_reducible exact H2_) | with_reducible exact H | (rw [hy161]; exact H) | exact H
 have Ny161 := am hy161
 clear hy161
 have H' := am H
 clear H
 go_enter Tryz.func34, Tryz.ntmps34
 go_wp2_with (first | ((with_reducible refine gate_dst (N := 2) rfl ?_); refine box_event ?hg (N := 2) ?hd (cs := #[.bool false, .slice none 0 0]) (t := 85) ?hr ?_; (case hd => rfl); (case hg => rfl); (case hr => first | (go_simp; done) | (go_simp; rfl)); intro gb160 hg w2 hbox hb; have n0_ := am (below_step (b_R) hb); have n1_ := am (hbox); have n2_ := am ((by rw [hg]; exact (below_size (b_R)) : w.heap.size ≤ gb160)); have n3_ := am ((by rw [hg]; exact (below_size (b_R)) : w.heap.size ≤ gb160)); clear HB; have HB := n0_; have BK160 := n1_; have GW160 := n2_; have GE160 := n3_; clear n0_ n1_ n2_ n3_; clear hb hbox hg) | ((with_reducible refine gate_dst (N := 7) rfl ?_); refine Kd.R_lit (Kd.int .u64) _ 122 ?hg (N := 7) ?hd (xs := ([] : List Int)) (inner := []) (ok := fun _ => True) (okp := fun _ => True) ?hr ?hp (fun _ hk => hk) trivial (Below.refl _ _) (Nat.le_refl _) (by simp) ?_; (case hd => rfl); (case hg => rfl); (case hr => first | (go_simp; done) | (go_simp; rfl)); (case hp => exact (Reps.none _ _)); intro v162 w3 ho4 hb hg_ hnew_; clear hg_ hnew_; (first | rw [← Ny161.out] at ho4 | (simp only [Int.reduceToNat] at ho4; rw [← Ny161.out] at ho4)); have n0_ := am (Kd.R_lower ho4 (below_size (by repeat (first | (with_reducible first | exact HB.out | apply below_alloc | apply pw_below_drewN | apply below_drew1 | refine below_set ?_ GE160.out) | exact HB.out)))); have n1_ := am (blk_below (g := gb160) (o := .cells #[.bool false, .slice none 0 0] 85 (0, 0)) (by (with_reducible repeat (first | refine blk_drewN ?_ _ | refine blk_drew ?_ | refine blk_alloc ?_ _)); exact BK160.out) hb); have n2_ := am (below_step (by repeat (first | (with_reducible first | exact HB.out | apply below_alloc | apply pw_below_drewN | apply below_drew1 | refine below_set ?_ GE160.out) | exact HB.out)) hb); clear BK160; clear HB; have HO163 := n0_; have BK160 := n1_; have HB := n2_; clear n0_ n1_ n2_; clear hb ho4))
 go_loopg [3, 4] k (fun kq v3 v4 w' => ∃ (x3_1 : List Int) (x4_1 : Int), v4 = .int .i64 x4_1 ∧ Aside0 (aneroidref01_Power.l0 kq a0 x3_1 x4_1 = some (r1, r2)) ∧ Aside0 (kq ≤ k) ∧ Aside0 (Kd.R (Kd.int .u64) 122 w' w.heap.size (fun _ => True) v3 x3_1) ∧ Aside0 (w'.heap[gb160]? = some (.cells #[.bool false, (.slice none 0 0)] 85 (0, 0))) ∧ Aside0 (Below w.heap.size w w'))
 case atStart => exact ⟨(y161), (0), (by first | rfl | (simp; done) | (simp [*]; done)), H', ⟨Nat.le_refl _⟩, ⟨by (with_reducible repeat (first | apply Kd.R_alloc | apply Kd.R_drewN | apply Kd.R_drew)); exact HO163.out⟩, ⟨by (with_reducible repeat (first | refine blk_drewN ?_ _ | refine blk_drew ?_ | refine blk_alloc ?_ _)); exact BK160.out⟩, ⟨by repeat (first | (with_reducible first | exact HB.out | apply below_alloc | apply pw_below_drewN | apply below_drew1 | refine below_set ?_ GE160.out) | exact HB.out)⟩⟩
 case round =>
  clear H'
  try clear c2
  try clear p2
  obtain ⟨x3_1, x4_1, rfl, HA, HK1, HO_3, BK160, HB⟩ := hrel
  cases gk with
  | zero => exact absurd HA.out (by simp [aneroidref01_Power.l0])
  | succ k1 =>
   have H := HA.out
   clear HA
   simp only [aneroidref01_Power.l0] at H
   by_cases c5 : x4_1 < (wrap64 (Int.tdiv a0 16))
   ·
    rw [if_pos c5] at H
    have c5b0 : decide (x4_1 < (wrap64 (Int.tdiv a0 16))) = true := decide_eq_true c5
    clear c5
    by_cases c6 : x3_1.length < 17592186044416
    ·
     rw [if_pos c6] at H
     have LMc6 := am c6
     clear c6
     obtain ⟨y164, hy164⟩ : ∃ y_ : List Int, y_ = (x3_1 ++ [0]) := ⟨_, rfl⟩
     replace H : (aneroidref01_Power.l0 k1 a0 y164 (wrap64 (x4_1 + 1))) = some (r1, r2) := by first | (rw [hy164]; with_reducible exact H) | (have H2_ := (Option.bind_some _ _).symm.trans H; rw [hy164]; with_reducible exact H2_) | (have H2_ := (Option.bind_some _ _).symm.trans H; with_reducible exact H2_) | with_reducible exact H | (rw [hy164]; exact H) | exact H
     have Ny164 := am hy164
     clear hy164
     have H' := am H
     clear H
     go_wp2_with (first | ((with_reducible refine gate_builtin (b := .append) (xs := #[.tmp 14, .tmp 15]) rfl ?_); at_builtin; refine Kd.R_append (Kd.int .u64) (w0 := w) w.heap.size rfl (.tmp 14) (.tmp 15) 83 122 (.int .u64 0) 8 rfl Tryz.underlying83 info122 rfl (by decide) (by omega) u3 x3_1 0 [.int .u64 0] (fun _ => True) (fun _ => False) rfl rfl ?aP (fun _ hk => hk.elim) ?aF ?aO ?aB ?aS ?aL ?_; (case aP => exact rfl); (case aB => exact (by repeat (first | (with_reducible first | exact HB.out | apply below_alloc | apply pw_below_drewN | apply below_drew1 | refine below_set ?_ GE160.out) | exact HB.out))); (case aF => exact (fun _ _ => trivial)); (case aO => exact (by (with_reducible repeat (first | apply Kd.R_alloc | apply Kd.R_drewN | apply Kd.R_drew)); exact HO_3.out)); (case aS => exact (below_size (by repeat (first | (with_reducible first | exact HB.out | apply below_alloc | apply pw_below_drewN | apply below_drew1 | refine below_set ?_ GE160.out) | exact HB.out)))); (case aL => have := LMc6.out; omega); intro v165 w7 ho hb hg hat; rw [← Ny164.out] at ho; have n0_ := am (blk_grown (g := gb160) (o := .cells #[.bool false, .slice none 0 0] 85 (0, 0)) (by (with_reducible repeat (first | refine blk_drewN ?_ _ | refine blk_drew ?_ | refine blk_alloc ?_ _)); exact BK160.out) hg (Kd.R_ne HO_3.out BK160.out (by decide))); have n1_ := am (hb); have n2_ := am (ho); clear BK160; clear HB; clear HO_3; have BK160 := n0_; have HB := n1_; have HO166 := n2_; clear n0_ n1_ n2_; clear ho hb hg hat))
     go_roundg k1
     case measure => have := HK1.out; omega
     case rel => exact ⟨(y164), (wrap64 (x4_1 + 1)), (by first | rfl | (simp; done) | (simp [*]; done)), H', ⟨by have := HK1.out; omega⟩, ⟨by (with_reducible repeat (first | apply Kd.R_alloc | apply Kd.R_drewN | apply Kd.R_drew)); exact HO166.out⟩, ⟨by (with_reducible repeat (first | refine blk_drewN ?_ _ | refine blk_drew ?_ | refine blk_alloc ?_ _)); exact BK160.out⟩, ⟨by repeat (first | (with_reducible first | exact HB.out | apply below_alloc | apply pw_below_drewN | apply below_drew1 | refine below_set ?_ GE160.out) | exact HB.out)⟩⟩
    rw [if_neg c6] at H
    exact absurd H (by simp)
   rw [if_neg c5] at H
   have c5b0 : decide (x4_1 < (wrap64 (Int.tdiv a0 16))) = false := decide_eq_false c5
   clear c5
   have H' := am H
   clear H
   go_wp2
   go_loopg [5, 6] k1 (fun kq v5 v6 w' => ∃ (x5_2 : Int) (x6_2 : Int), v5 = .int .u64 x5_2 ∧ v6 = .int .i64 x6_2 ∧ Aside0 (aneroidref01_Power.l1 kq a0 x3_1 x5_2 x6_2 = some (r1, r2)) ∧ Aside0 (kq ≤ k1) ∧ Aside0 (Kd.R (Kd.int .u64) 122 w' w.heap.size (fun _ => True) u3 x3_1) ∧ Aside0 (w'.heap[gb160]? = some (.cells #[.bool false, (.slice none 0 0)] 85 (0, 0))) ∧ Aside0 (Below w.heap.size w w'))
   case atStart => exact ⟨(1), (0), (by first | rfl | (simp; done) | (simp [*]; done)), (by first | rfl | (simp; done) | (simp [*]; done)), H', ⟨Nat.le_refl _⟩, ⟨by (with_reducible repeat (first | apply Kd.R_alloc | apply Kd.R_drewN | apply Kd.R_drew)); exact HO_3.out⟩, ⟨by (with_reducible repeat (first | refine blk_drewN ?_ _ | refine blk_drew ?_ | refine blk_alloc ?_ _)); exact BK160.out⟩, ⟨by repeat (first | (with_reducible first | exact HB.out | apply below_alloc | apply pw_below_drewN | apply below_drew1 | refine below_set ?_ GE160.out) | exact HB.out)⟩⟩
   case round =>
    clear H'
    try clear c2
    try clear p2
    try clear c5
    try clear c5b0
    try clear c6
    try clear p6
    try clear p2
    obtain ⟨x5_2, x6_2, rfl, rfl, HA, HK2, HO_3, BK160, HB⟩ := hrel
    cases gk with
    | zero => exact absurd HA.out (by simp [aneroidref01_Power.l1])
    | succ k2 =>
     have H := HA.out
     clear HA
     simp only [aneroidref01_Power.l1] at H
     by_cases c8 : x6_2 < (Int.tmod a0 16)
     ·
      rw [if_pos c8] at H
      have c8b0 : decide (x6_2 < (Int.tmod a0 16)) = true := decide_eq_true c8
      clear c8
      have H' := am H
      clear H
      go_wp2
      go_roundg k2
      case measure => have := HK1.out; have := HK2.out; omega
      case rel => exact ⟨(IntKind.u64.wrap (2 * x5_2)), (wrap64 (x6_2 + 1)), (by first | rfl | (simp; done) | (simp [*]; done)), (by first | rfl | (simp; done) | (simp [*]; done)), H', ⟨by have := HK1.out; have := HK2.out; omega⟩, ⟨by (with_reducible repeat (first | apply Kd.R_alloc | apply Kd.R_drewN | apply Kd.R_drew)); exact HO_3.out⟩, ⟨by (with_reducible repeat (first | refine blk_drewN ?_ _ | refine blk_drew ?_ | refine blk_alloc ?_ _)); exact BK160.out⟩, ⟨by repeat (first | (with_reducible first | exact HB.out | apply below_alloc | apply pw_below_drewN | apply below_drew1 | refine below_set ?_ GE160.out) | exact HB.out)⟩⟩
     rw [if_neg c8] at H
     have c8b0 : decide (x6_2 < (Int.tmod a0 16)) = false := decide_eq_false c8
     clear c8
     by_cases c9 : x3_1.length < 17592186044416
     ·
      rw [if_pos c9] at H
      have LMc9 := am c9
      clear c9
      obtain ⟨y167, hy167⟩ : ∃ y_ : List Int, y_ = (x3_1 ++ [x5_2]) := ⟨_, rfl⟩
      replace H : (some (false, y167)) = some (r1, r2) := by first | (rw [hy167]; with_reducible exact H) | (have H2_ := (Option.bind_some _ _).symm.trans H; rw [hy167]; with_reducible exact H2_) | (have H2_ := (Option.bind_some _ _).symm.trans H; with_reducible exact H2_) | with_reducible exact H | (rw [hy167]; exact H) | exact H
      have Ny167 := am hy167
      clear hy167
      simp only [Option.some.injEq, Prod.mk.injEq] at H
      obtain ⟨rfl, rfl⟩ := H
      go_wp2_with (first | ((with_reducible refine gate_builtin (b := .append) (xs := #[.tmp 25, .tmp 27]) rfl ?_); at_builtin; refine Kd.R_append (Kd.int .u64) (w0 := w) w.heap.size rfl (.tmp 25) (.tmp 27) 83 122 (.int .u64 0) 8 rfl Tryz.underlying83 info122 rfl (by decide) (by omega) u3 x3_1 x5_2 [.int .u64 x5_2] (fun _ => True) (fun _ => False) rfl rfl ?aP (fun _ hk => hk.elim) ?aF ?aO ?aB ?aS ?aL ?_; (case aP => exact rfl); (case aB => exact (by repeat (first | (with_reducible first | exact HB.out | apply below_alloc | apply pw_below_drewN | apply below_drew1 | refine below_set ?_ GE160.out) | exact HB.out))); (case aF => exact (fun _ _ => trivial)); (case aO => exact (by (with_reducible repeat (first | apply Kd.R_alloc | apply Kd.R_drewN | apply Kd.R_drew)); exact HO_3.out)); (case aS => exact (below_size (by repeat (first | (with_reducible first | exact HB.out | apply below_alloc | apply pw_below_drewN | apply below_drew1 | refine below_set ?_ GE160.out) | exact HB.out)))); (case aL => have := LMc9.out; omega); intro v168 w10 ho hb hg hat; rw [← Ny167.out] at ho; have n0_ := am (blk_grown (g := gb160) (o := .cells #[.bool false, .slice none 0 0] 85 (0, 0)) (by (with_reducible repeat (first | refine blk_drewN ?_ _ | refine blk_drew ?_ | refine blk_alloc ?_ _)); exact BK160.out) hg (Kd.R_ne HO_3.out BK160.out (by decide))); have n1_ := am (hb); have n2_ := am (ho); clear BK160; clear HB; clear HO_3; have BK160 := n0_; have HB := n1_; have HO169 := n2_; clear n0_ n1_ n2_; clear ho hb hg hat; obtain ⟨Ao11, co11, eo11⟩ := Kd.R_slice HO169.out; subst eo11; have hcz12_0 : w10.cell? ⟨gb160, 0, none⟩ = some (.bool false) := (blk_cell BK160.out 0).trans rfl; have hcz12_1 : w10.cell? ⟨gb160, 1, none⟩ = some (.slice none 0 0) := (blk_cell BK160.out 1).trans rfl; have hfz12_0 := b_z BK160 0; have hfz12_1 := b_z BK160 1))
      refine bodyPost_ret (results_cell_row rfl _ _ gb160 85 #[.bool false, .slice Ao11 y167.length co11] (0, 0) _ rfl (by (with_reducible repeat (first | refine blk_drewN ?_ _ | refine blk_drew ?_ | refine blk_alloc ?_ _)); refine blk_put (cs := #[.bool false, .slice none 0 0]) ?_ 1 _ rfl; (with_reducible repeat (first | refine blk_drewN ?_ _ | refine blk_drew ?_ | refine blk_alloc ?_ _)); refine blk_put (cs := #[.bool false, .slice none 0 0]) ?_ 0 _ rfl; (with_reducible repeat (first | refine blk_drewN ?_ _ | refine blk_drew ?_ | refine blk_alloc ?_ _)); exact BK160.out) Tryz.underlying85 rfl (by kernel_rfl)) rfl ?_
      exact ⟨_, by first | rfl | (simp [errW_none, errW_some] <;> rfl) | (simp [*, errW_none, errW_some] <;> rfl), by (with_reducible repeat (first | apply Kd.R_alloc | apply Kd.R_drewN | apply Kd.R_drew)); exact Kd.R_mono (Kd.R_far (p := ⟨gb160, 1, none⟩) (Kd.R_far (p := ⟨gb160, 0, none⟩) (Kd.R_types HO169.out BK160.out (by decide)) (fun _ hk => hk.2) (.bool false)) (fun _ hk => hk.2) (.slice Ao11 y167.length co11)) (fun _ hk => trivial), by repeat (first | (with_reducible first | exact HB.out | apply below_alloc | apply pw_below_drewN | apply below_drew1 | refine below_set ?_ GE160.out) | exact HB.out)⟩
     rw [if_neg c9] at H
     exact absurd H (by simp)
end Go.Proofs.YtpdahkgandaabaaGreatDoor.PDoc
