/- A part of the proof of the law TopNone of the top, where the package's tables hold what their initialisers lay. -/
import Derived.Test.YtpdahkgandaabaaGreatDoorS01
import Derived.Test.YtpdahkgandaabaaGreatDoorS11
import Derived.Test.YtpdahkgandaabaaGreatDoorS12
import Derived.Test.YtpdahkgandaabaaGreatDoorS19
import Derived.Test.YtpdahkgandaabaaGreatDoorS24
import Derived.Test.YtpdahkgandaabaaGreatDoorS26
namespace Go.Proofs.YtpdahkgandaabaaGreatDoor.Ch
open Go.RowKit Go.Proofs.YtpdahkgandaabaaGreatDoorW.PrintWords Go.Proofs.YtpdahkgandaabaaGreatDoorW.PrintLast Go.Proofs.YtpdahkgandaabaaGreatDoorW.PrintMore Go.Proofs.YtpdahkgandaabaaGreatDoor.PTopNames Go.Proofs.YtpdahkgandaabaaGreatDoor.Al
set_option linter.unusedVariables false
set_option linter.unusedSimpArgs false
theorem step_more (w0 w : World) (hG : G w0) (g f gr : Nat) (s : Gs) (c : Cf) (v : Value) (mode since last run band noise rough count : Int) (known : Bool) (l : List Int) (a p : Int) (sh : Bool)
  (h : Chan w0 w g f gr s c v mode since last run band noise rough count known l) (hck : checkR c = 0) (hm : mode = 0 ∨ mode = 3) (hp : good p = true) (hlo : inLost c run a = false) (hl : l.length < 15) :
  Calls Tryz.prog 10 #[.pointer (some ⟨g, 0, none⟩), .agg #[.int .i64 a, .bool true, .int .i64 p, .bool sh]] w fun e w' => ∃ v', e = .returned (.agg (toldV mode false false false (clipped c a) false 0 0 0)) ∧ Chan w0 w' g f gr s c v' mode since (inT c last a) (inRun c run a) band noise rough count known (l ++ [p]) ∧ Kept w w' (fun k => k = g ∨ k = f ∨ k = gr ∨ v.ownBlock = some k) ∧ OwT w v v' := by
 obtain ⟨al, h0⟩ := out_tells s.x0
 obtain ⟨sp, h1⟩ := out_tells s.x1
 obtain ⟨bi, h2⟩ := out_tells s.x2
 have hs : seeksB mode = true := by rcases hm with rfl | rfl <;> rfl
 have hv : validB mode = false := by rcases hm with rfl | rfl <;> rfl
 refine (step_any c hck s mode since last run band noise rough count known l (by omega) a p true sh _ _ p _ _ true ⟨2, false, false, false, s, count, known, l ++ [p]⟩ mode since al sp bi rfl rfl rfl hlo (brings_yes a p sh hp)
  ⟨nofun, fun _ _ h => absurd h (by decide), fun _ _ _ _ => rfl, fun _ _ _ h => by omega, fun _ h => absurd (hs.symm.trans h) (by decide)⟩ (on_miss hm) h0 h1 h2 w0 w g f gr v hG h).mono ?_
 rintro e w' ⟨v', rfl, hc, hk, ho⟩
 exact ⟨v', by simp [hv], by simpa [hs] using hc, hk, ho⟩
theorem step_end (w0 w : World) (hG : G w0) (g f gr : Nat) (s : Gs) (c : Cf) (v : Value) (mode since last run band noise rough count : Int) (known : Bool) (l : List Int) (a p : Int) (sh : Bool)
  (h : Chan w0 w g f gr s c v mode since last run band noise rough count known l) (hck : checkR c = 0) (hm : mode = 0 ∨ mode = 3) (hp : good p = true) (hlo : inLost c run a = false) (hl : l.length = 15) (m em o : Int) (hmean : mean_Of.f 20 (l ++ [p]) = some (m, em)) (hO : Tells 30 #[.int .i64 (if good m then alt m else 0)] (.int .i64 o)) :
  Calls Tryz.prog 10 #[.pointer (some ⟨g, 0, none⟩), .agg #[.int .i64 a, .bool true, .int .i64 p, .bool sh]] w fun e w' => ∃ v', e = .returned (.agg (toldV 1 true true false (clipped c a) false o 0 0)) ∧ Chan w0 w' g f gr ⟨if good m then alt m else 0, 0, 0, c.s0, 0, 0, c.s1, 0, c.s2⟩ c v' 1 0 (inT c last a) (inRun c run a) band noise rough (if good m && !known then m else count) (known || good m) [] ∧ Kept w w' (fun k => k = g ∨ k = f ∨ k = gr ∨ v.ownBlock = some k) ∧ OwT w v v' := by
 have hs : seeksB mode = true := by rcases hm with rfl | rfl <;> rfl
 have hz : Tells 30 #[.int .i64 0] (.int .i64 0) := fun w _ => out_zero w
 refine (step_any c hck s mode since last run band noise rough count known l (by omega) a p true sh _ _ p _ _ true ⟨0, true, false, false, ⟨if good m then alt m else 0, 0, 0, c.s0, 0, 0, c.s1, 0, c.s2⟩, (if good m && !known then m else count), (known || good m), l ++ [p]⟩ 1 0 o 0 0 rfl rfl rfl hlo (brings_yes a p sh hp)
  ⟨nofun, fun _ _ h => absurd h (by decide), fun _ _ _ h => by omega, fun _ _ _ _ => ⟨m, em, hmean, rfl⟩, fun _ h => absurd (hs.symm.trans h) (by decide)⟩ (on_enter hm) hO hz hz w0 w g f gr v hG h).mono ?_
 rintro e w' ⟨v', rfl, hc, hk, ho⟩
 exact ⟨v', rfl, hc, hk, ho⟩
theorem step_last (w0 w : World) (hG : G w0) (g f gr : Nat) (s : Gs) (c : Cf) (v : Value) (mode since last run band noise rough count : Int) (known : Bool) (l : List Int) (a p : Int) (sh : Bool)
  (h : Chan w0 w g f gr s c v mode since last run band noise rough count known l) (hck : checkR c = 0) (hm : mode = 0 ∨ mode = 3) (hp : good p = true) (hlo : inLost c run a = false) (hl : l.length = 15) (m o : Int) (hmean : mean_Of.f 20 (l ++ [p]) = some (m, 0)) (hgm : good m = true) (hkn : known = false) (hO : Tells 30 #[.int .i64 (alt m)] (.int .i64 o)) :
  Calls Tryz.prog 10 #[.pointer (some ⟨g, 0, none⟩), .agg #[.int .i64 a, .bool true, .int .i64 p, .bool sh]] w fun e w' => ∃ v', e = .returned (.agg (toldV 1 true true false (clipped c a) false o 0 0)) ∧ Chan w0 w' g f gr ⟨alt m, 0, 0, c.s0, 0, 0, c.s1, 0, c.s2⟩ c v' 1 0 (inT c last a) (inRun c run a) band noise rough m true [] ∧ Kept w w' (fun k => k = g ∨ k = f ∨ k = gr ∨ v.ownBlock = some k) ∧ OwT w v v' := by
 refine (step_end w0 w hG g f gr s c v mode since last run band noise rough count known l a p sh h hck hm hp hlo hl m 0 o hmean (by simpa [hgm] using hO)).mono ?_
 rintro e w' ⟨v', rfl, hc, hk, ho⟩
 exact ⟨v', rfl, by simpa [hgm, hkn] using hc, hk, ho⟩
theorem told_ex (c : Cf) (hck : checkR c = 0) (s : Gs) (mode since last run band noise rough count : Int) (known : Bool) (l : List Int) (hl : l.length ≤ 15) (a p : Int) (has sh : Bool) : ∃ (t0 : Int) (t1 t2 t3 t4 t5 : Bool) (t6 t7 t8 : Int) (s' : Gs) (mode' since' count' : Int) (known' : Bool) (l' : List Int),
  l'.length ≤ 15 ∧ (mode = 0 ∨ mode = 1 ∨ mode = 2 ∨ mode = 3 → mode' = 0 ∨ mode' = 1 ∨ mode' = 2 ∨ mode' = 3) ∧ ∀ (a' p' : Int) (has' : Bool), inT c last a' = inT c last a → inRun c run a' = inRun c run a → clipped c a' = clipped c a → inLost c run a' = inLost c run a → baro_Brings.f a' has' p' sh = baro_Brings.f a has p sh →
  ∀ (w0 w : World) (g f gr : Nat) (v : Value), G w0 → Chan w0 w g f gr s c v mode since last run band noise rough count known l → Calls Tryz.prog 10 #[.pointer (some ⟨g, 0, none⟩), .agg #[.int .i64 a', .bool has', .int .i64 p', .bool sh]] w fun e w' => ∃ v', e = .returned (.agg #[.int .i64 t0, .bool t1, .bool t2, .bool t3, .bool t4, .bool t5, .int .i64 t6, .int .i64 t7, .int .i64 t8]) ∧ Chan w0 w' g f gr s' c v' mode' since' (inT c last a) (inRun c run a) band noise rough count' known' l' ∧ Kept w w' (fun k => k = g ∨ k = f ∨ k = gr ∨ v.ownBlock = some k) ∧ OwT w v v' := by
 obtain ⟨m, hm, hm16, hm15⟩ := mid_ex c s mode (inT c last a) (clipped c a) (inLost c run a) (has && good p) sh (if has && good p then p else 0) band noise rough count known l hl
 obtain ⟨m2, s2, hon, hmo⟩ := on_ex mode since m.ev c.coast c.out
 obtain ⟨al, h0⟩ := out_tells m.s.x0
 obtain ⟨sp, h1⟩ := out_tells m.s.x1
 obtain ⟨bi, h2⟩ := out_tells m.s.x2
 refine ⟨_, _, _, _, _, _, _, _, _, _, _, _, _, _, _, ?_, ?_, fun a' p' has' e1 e2 e3 e4 hb w0 w g f gr v hG h => step_any c hck s mode since last run band noise rough count known l hl a' p' has' sh _ _ _ _ _ _ m m2 s2 al sp bi e1 e2 e3 e4 (hb.trans (brings_f a p has sh)) hm hon h0 h1 h2 w0 w g f gr v hG h⟩
 ·
  split
  ·
   exact Nat.zero_le _
  ·
   rename_i hd
   refine hm15 (fun e => hd ?_)
   simp [e]
 ·
  exact hmo
end Go.Proofs.YtpdahkgandaabaaGreatDoor.Ch
namespace Go.Proofs.YtpdahkgandaabaaGreatDoor.Ch
open Go.RowKit Go.Proofs.YtpdahkgandaabaaGreatDoorW.PrintWords Go.Proofs.YtpdahkgandaabaaGreatDoorW.PrintLast Go.Proofs.YtpdahkgandaabaaGreatDoorW.PrintMore Go.Proofs.YtpdahkgandaabaaGreatDoor.PTopNames
set_option linter.unusedVariables false
set_option linter.unusedSimpArgs false
def dflt : Cf := ⟨1024, 65536, 256, 16384, 4194304, 4096, 274877906944, 4398046511104, 4398046511104, 1099511627776, 68719476736, 256, 256, 256, 1125899906842624, 281474976710656, 17592186044416, 18014398509481984, 562949953421312, 8796093022208, 9, 34359738368, 17179869184, (-1073741824), 536870912, 2048, 32768, 32, 64, 1280, 240⟩
theorem dflt_ok : checkR dflt = 0 := by decide +kernel
def dfltV : Array Value := #[.int .i64 1024, .int .i64 65536, .int .i64 256, .int .i64 16384, .int .i64 4194304, .int .i64 4096, .int .i64 274877906944, .int .i64 4398046511104, .int .i64 4398046511104, .int .i64 1099511627776, .int .i64 68719476736, .int .i64 256, .int .i64 256, .int .i64 256, .int .i64 1125899906842624, .int .i64 281474976710656, .int .i64 17592186044416, .int .i64 18014398509481984, .int .i64 562949953421312, .int .i64 8796093022208, .int .i64 9, .int .i64 34359738368, .int .i64 17179869184, .int .i64 (-1073741824), .int .i64 536870912, .int .i64 2048, .int .i64 32768, .int .i64 32, .int .i64 64, .int .i64 1280, .int .i64 240]
theorem dflt_v : dflt.v = dfltV := by kernel_rfl
def zeroV : Array Value := #[.int .i64 0, .int .i64 0, .int .i64 0, .int .i64 0, .int .i64 0, .int .i64 0, .int .i64 0, .int .i64 0, .int .i64 0, .int .i64 0, .int .i64 0, .int .i64 0, .int .i64 0, .int .i64 0, .int .i64 0, .int .i64 0, .int .i64 0, .int .i64 0, .int .i64 0, .int .i64 0, .int .i64 0, .int .i64 0, .int .i64 0, .int .i64 0, .int .i64 0, .int .i64 0, .int .i64 0, .int .i64 0, .int .i64 0, .int .i64 0, .int .i64 0]
set_option maxRecDepth 100000 in
set_option maxHeartbeats 4000000 in
theorem default_any (w : World) : Calls Tryz.prog 18 #[] w fun e w' => e = .returned (.agg dflt.v) ∧ Below w.heap.size w w' := by
 rw [dflt_v]
 have HB := am (below_alloc (Below.refl w.heap.size w) (.cells dfltV 28))
 go_enter Tryz.func18, Tryz.ntmps18
 go_upto_region 1 with fail
 iterate 26 go_step
 refine wp_store_row 28 (.tmp 0) (.tmp 8) rfl w.heap.size dfltV rfl rfl 28 zeroV (heap_alloc_last w _) (by kernel_rfl) (by kernel_rfl) (by kernel_rfl) ?_
 rw [show (w.alloc (.cells #[.int .i64 0, .int .i64 0, .int .i64 0, .int .i64 0, .int .i64 0, .int .i64 0, .int .i64 0, .int .i64 0, .int .i64 0, .int .i64 0, .int .i64 0, .int .i64 0, .int .i64 0, .int .i64 0, .int .i64 0, .int .i64 0, .int .i64 0, .int .i64 0, .int .i64 0, .int .i64 0, .int .i64 0, .int .i64 0, .int .i64 0, .int .i64 0, .int .i64 0, .int .i64 0, .int .i64 0, .int .i64 0, .int .i64 0, .int .i64 0, .int .i64 0] 28)).setRow w.heap.size dfltV = w.alloc (.cells dfltV 28) from World.setRow_alloc_new w _ _ _]
 go_wp2_with fail
 refine bodyPost_ret (v := .agg dfltV) ?_ rfl ⟨rfl, HB.out⟩
 exact results_cell_row rfl _ _ w.heap.size 28 dfltV (0, 0) _ rfl (heap_alloc_last w _) Tryz.underlying28 rfl (by kernel_rfl)
end Go.Proofs.YtpdahkgandaabaaGreatDoor.Ch
namespace Go.Proofs.YtpdahkgandaabaaGreatDoor.Ch
open Go.RowKit Go.Proofs.YtpdahkgandaabaaGreatDoorW.PrintWords Go.Proofs.YtpdahkgandaabaaGreatDoorW.PrintLast Go.Proofs.YtpdahkgandaabaaGreatDoorW.PrintMore Go.Proofs.YtpdahkgandaabaaGreatDoor.PTopNames Go.Proofs.YtpdahkgandaabaaGreatDoor.Al
set_option linter.unusedVariables false
set_option linter.unusedSimpArgs false
theorem d_last : inT dflt 0 2048 = 0 := by decide +kernel
theorem d_run : inRun dflt 0 2048 = 0 := by decide +kernel
theorem d_clip : clipped dflt 2048 = false := by decide +kernel
theorem d_lost : inLost dflt 0 2048 = false := by decide +kernel
theorem d_good : good 405300 = true := by decide +kernel
theorem d_alt : alt 405300 = 0 := by decide +kernel
theorem d_mean : mean_Of.f 20 (List.replicate 15 405300 ++ [405300]) = some (405300, 0) := by decide +kernel
def FIN : Array Value := toldV 1 true true false false false 0 0 0
def ZED : Array Value := toldV 0 false false false false false 0 0 0
theorem rep_snoc (k : Nat) (x : Int) : List.replicate k x ++ [x] = List.replicate (k + 1) x := (List.replicate_succ' (n := k) (a := x)).symm
def TB (k : Nat) : Array Value := if k = 16 then FIN else ZED
theorem tb_no {k : Nat} (h : k ≠ 16) : TB k = ZED := if_neg h
theorem Chan.told2 {w0 W : World} {g f gr : Nat} {s : Gs} {c : Cf} {v : Value} {mode since last run band noise rough count : Int} {known : Bool} {l : List Int} (h : Chan w0 W g f gr s c v mode since last run band noise rough count known l) {b : Nat}
  (hb : W.heap[b]? = some (.cells ZED 39 (0, 0))) (b0 : w0.heap.size ≤ b) (m : Int) (va ac re he gr' : Bool) (al sp bi : Int) :
  (((((((((W.setCell ⟨b, 0, none⟩ (.int .i64 m)).setCell ⟨b, 1, none⟩ (.bool va)).setCell ⟨b, 2, none⟩ (.bool ac)).setCell ⟨b, 3, none⟩ (.bool re)).setCell ⟨b, 4, none⟩ (.bool he)).setCell ⟨b, 5, none⟩ (.bool gr')).setCell ⟨b, 6, none⟩ (.int .i64 al)).setCell ⟨b, 7, none⟩ (.int .i64 sp)).setCell ⟨b, 8, none⟩ (.int .i64 bi)).heap[b]? = some (.cells (toldV m va ac re he gr' al sp bi) 39 (0, 0)) ∧ Chan w0 (((((((((W.setCell ⟨b, 0, none⟩ (.int .i64 m)).setCell ⟨b, 1, none⟩ (.bool va)).setCell ⟨b, 2, none⟩ (.bool ac)).setCell ⟨b, 3, none⟩ (.bool re)).setCell ⟨b, 4, none⟩ (.bool he)).setCell ⟨b, 5, none⟩ (.bool gr')).setCell ⟨b, 6, none⟩ (.int .i64 al)).setCell ⟨b, 7, none⟩ (.int .i64 sp)).setCell ⟨b, 8, none⟩ (.int .i64 bi)) g f gr s c v mode since last run band noise rough count known l := by
 have p0 := blk_set hb 0 (.int .i64 m)
 have p1 := blk_set p0 1 (.bool va)
 have p2 := blk_set p1 2 (.bool ac)
 have p3 := blk_set p2 3 (.bool re)
 have p4 := blk_set p3 4 (.bool he)
 have p5 := blk_set p4 5 (.bool gr')
 have p6 := blk_set p5 6 (.int .i64 al)
 have p7 := blk_set p6 7 (.int .i64 sp)
 have p8 := blk_set p7 8 (.int .i64 bi)
 exact ⟨p8.trans (by kernel_rfl), h.but hb (by decide) ((((((((((Kept.refl W (fun k => k = b)).setCell (p := ⟨b, 0, none⟩) (.inl rfl) (.int .i64 m)).setCell (p := ⟨b, 1, none⟩) (.inl rfl) (.bool va)).setCell (p := ⟨b, 2, none⟩) (.inl rfl) (.bool ac)).setCell (p := ⟨b, 3, none⟩) (.inl rfl) (.bool re)).setCell (p := ⟨b, 4, none⟩) (.inl rfl) (.bool he)).setCell (p := ⟨b, 5, none⟩) (.inl rfl) (.bool gr')).setCell (p := ⟨b, 6, none⟩) (.inl rfl) (.int .i64 al)).setCell (p := ⟨b, 7, none⟩) (.inl rfl) (.int .i64 sp)).setCell (p := ⟨b, 8, none⟩) (.inl rfl) (.int .i64 bi)) (((((((((h.hb.setCell (p := ⟨b, 0, none⟩) b0 (.int .i64 m)).setCell (p := ⟨b, 1, none⟩) b0 (.bool va)).setCell (p := ⟨b, 2, none⟩) b0 (.bool ac)).setCell (p := ⟨b, 3, none⟩) b0 (.bool re)).setCell (p := ⟨b, 4, none⟩) b0 (.bool he)).setCell (p := ⟨b, 5, none⟩) b0 (.bool gr')).setCell (p := ⟨b, 6, none⟩) b0 (.int .i64 al)).setCell (p := ⟨b, 7, none⟩) b0 (.int .i64 sp)).setCell (p := ⟨b, 8, none⟩) b0 (.int .i64 bi))⟩
def Ex (w0 W : World) (g f gr : Nat) (k : Nat) : Prop := ∃ v, Chan w0 W g f gr ⟨0, 0, 0, 0, 0, 0, 0, 0, 0⟩ dflt v 0 0 0 0 (mx dflt.band 0) dflt.r dflt.rg 0 false (List.replicate k 405300)
set_option maxRecDepth 100000 in
set_option maxHeartbeats 4000000 in
theorem fixed_any (w : World) (hT : G w) : Calls Tryz.prog 6 #[] w fun e w' => e = .returned (.bool true) ∧ Below w.heap.size w w' := by
 have HT := am hT
 clear hT
 have hnil : ∀ (g : Nat) (w : World), (binOp .eql 33 (.pointer (some ⟨g, 0, none⟩)) (.pointer none)).run Tryz.prog w = .ok (.bool false) w := fun _ _ => by first | rfl | (simp [go_sem]; done)
 have heq : ∀ w, (binOp .eql 39 (.agg #[.int .i64 1, .bool true, .bool true, .bool false, .bool false, .bool false, .int .i64 0, .int .i64 0, .int .i64 0]) (.agg #[.int .i64 1, .bool true, .bool true, .bool false, .bool false, .bool false, .int .i64 0, .int .i64 0, .int .i64 0])).run Tryz.prog w = .ok (.bool true) w := fun _ => by kernel_rfl
 go_enter Tryz.func6, Tryz.ntmps6
 go_wp2_with fail
 refine (default_any w).mono ?_
 rintro e w1 ⟨rfl, hb⟩
 have HB := am hb
 clear hb
 go_wp2_with fail
 refine (new_any w1 dflt dflt_ok).mono ?_
 rintro e w2 ⟨g, f, gr, rfl, hg, hf, hi, g0, f0, hb⟩
 have HG := am (Nat.le_trans HB.out.size g0)
 have HE := am (show Ex w w2 g f gr 0 from ⟨.slice none 0 0, hg, hf, ⟨hi.1, Nat.le_trans HB.out.size hi.2⟩, Kd.R_nil _ _ _ _ _, Nat.le_trans HB.out.size g0, Nat.le_trans HB.out.size f0, below_step HB.out hb⟩)
 have HB2 := HE
 clear hg hf hi g0 f0 hb HB
 go_upto_region 5 with fail
 have HX := am (blk_new w2 (.cells #[.int .i64 0, .bool false, .bool false, .bool false, .bool false, .bool false, .int .i64 0, .int .i64 0, .int .i64 0] 39))
 replace HE := am (show Ex w (w2.alloc (.cells #[.int .i64 0, .bool false, .bool false, .bool false, .bool false, .bool false, .int .i64 0, .int .i64 0, .int .i64 0] 39)) g f gr 0 from (by obtain ⟨v, h⟩ := HE.out; exact ⟨v, h.alloc _⟩))
 have HG0 := am (show w.heap.size ≤ w2.heap.size from (by obtain ⟨v, h⟩ := HB2.out; exact h.hb.size))
 generalize w2.alloc (.cells #[.int .i64 0, .bool false, .bool false, .bool false, .bool false, .bool false, .int .i64 0, .int .i64 0, .int .i64 0] 39) = w3 at HX HE ⊢
 generalize w2.heap.size = b at HX HG0 ⊢
 clear HB2
 go_wp2_with fail
 go_loopw [15] (fun v15 wr => ∃ k : Nat, k ≤ 16 ∧ v15 = .int .i64 k ∧ Aside0 (k < 16 → Ex w wr g f gr k) ∧ Aside0 (wr.heap[b]? = some (.cells (TB k) 39 (0, 0))) ∧ Aside0 (Below w.heap.size w wr)) (fun v15 _ => 17 - (intOf v15).toNat)
 case atStart => exact ⟨0, by omega, rfl, ⟨fun _ => HE.out⟩, ⟨HX.out⟩, ⟨(by obtain ⟨v, h⟩ := HE.out; exact h.hb)⟩⟩
 case round =>
  clear HE HX
  obtain ⟨k, hk, rfl, HE, HX, HB⟩ := hrel
  by_cases hlt : k < 15
  ·
   have q0 : decide ((k : Int) < 16) = true := decide_eq_true (by omega)
   replace HX := am ((tb_no (by omega : k ≠ 16)) ▸ HX.out)
   obtain ⟨v, hC⟩ := HE.out (by omega)
   have HC := am hC
   clear hC HE HB
   go_wp2_with fail
   refine (step_more w wr HT.out g f gr ⟨0, 0, 0, 0, 0, 0, 0, 0, 0⟩ dflt v 0 0 0 0 (mx dflt.band 0) dflt.r dflt.rg 0 false (List.replicate k 405300) 2048 405300 false HC.out dflt_ok (.inl rfl) d_good d_lost (by rw [List.length_replicate]; omega)).mono ?_
   rintro e wx ⟨v', rfl, hC, hk, _⟩
   have hX := blk_kept HX.out hk (fun hS => by rcases hS with e | e | e | e; exact blk_ne HX.out HC.out.hg (by decide) e; exact blk_ne HX.out HC.out.hf (by decide) e; exact (HC.out.hi.ne_blk HX.out (by decide)) e.symm; exact (Kd.R_ne HC.out.hr HX.out (by decide)) e.symm)
   rw [d_last, d_run, rep_snoc] at hC
   have HX2 := am hX
   have HC2 := am hC
   clear hX hC hk
   rw [d_clip]
   unfold toldV
   have y0 := bcv HX2.out 0 (.int .i64 0) rfl
   have f0 := bfz HX2.out 0
   have y1 := bcv HX2.out 1 (.bool false) rfl
   have f1 := bfz HX2.out 1
   have y2 := bcv HX2.out 2 (.bool false) rfl
   have f2 := bfz HX2.out 2
   have y3 := bcv HX2.out 3 (.bool false) rfl
   have f3 := bfz HX2.out 3
   have y4 := bcv HX2.out 4 (.bool false) rfl
   have f4 := bfz HX2.out 4
   have y5 := bcv HX2.out 5 (.bool false) rfl
   have f5 := bfz HX2.out 5
   have y6 := bcv HX2.out 6 (.int .i64 0) rfl
   have f6 := bfz HX2.out 6
   have y7 := bcv HX2.out 7 (.int .i64 0) rfl
   have f7 := bfz HX2.out 7
   have y8 := bcv HX2.out 8 (.int .i64 0) rfl
   have f8 := bfz HX2.out 8
   obtain ⟨q4, qh⟩ := HC2.out.told2 HX2.out HG0.out 0 false false false false false 0 0 0
   go_wp2_with fail
   generalize ((((((((wx.setCell ⟨b, 0, none⟩ (.int .i64 0)).setCell ⟨b, 1, none⟩ (.bool false)).setCell ⟨b, 2, none⟩ (.bool false)).setCell ⟨b, 3, none⟩ (.bool false)).setCell ⟨b, 4, none⟩ (.bool false)).setCell ⟨b, 5, none⟩ (.bool false)).setCell ⟨b, 6, none⟩ (.int .i64 0)).setCell ⟨b, 7, none⟩ (.int .i64 0)).setCell ⟨b, 8, none⟩ (.int .i64 0) = wz at q4 qh ⊢
   go_roundw
   case rel => exact ⟨k + 1, by omega, rfl, ⟨fun _ => ⟨v', qh⟩⟩, ⟨(tb_no (by omega : k + 1 ≠ 16)) ▸ q4⟩, ⟨qh.hb⟩⟩
   case measure => simp [intOf]; omega
  ·
   by_cases h15 : k = 15
   ·
    subst h15
    have hc15 : ((15 : Nat) : Int) = 15 := rfl
    replace HX := am ((tb_no (by decide : 15 ≠ 16)) ▸ HX.out)
    obtain ⟨v, hC⟩ := HE.out (by omega)
    have HC := am hC
    clear hC HE HB hlt
    go_wp2_with fail
    refine (step_last w wr HT.out g f gr ⟨0, 0, 0, 0, 0, 0, 0, 0, 0⟩ dflt v 0 0 0 0 (mx dflt.band 0) dflt.r dflt.rg 0 false (List.replicate 15 405300) 2048 405300 false HC.out dflt_ok (.inl rfl) d_good d_lost rfl 405300 0 d_mean d_good rfl (fun w _ => by rw [d_alt]; exact out_zero w)).mono ?_
    rintro e wx ⟨v', rfl, hC, hk, _⟩
    have hX := blk_kept HX.out hk (fun hS => by rcases hS with e | e | e | e; exact blk_ne HX.out HC.out.hg (by decide) e; exact blk_ne HX.out HC.out.hf (by decide) e; exact (HC.out.hi.ne_blk HX.out (by decide)) e.symm; exact (Kd.R_ne HC.out.hr HX.out (by decide)) e.symm)
    rw [d_last, d_run] at hC
    have HX2 := am hX
    have HC2 := am hC
    clear hX hC hk
    rw [d_clip]
    unfold toldV
    have y0 := bcv HX2.out 0 (.int .i64 0) rfl
    have f0 := bfz HX2.out 0
    have y1 := bcv HX2.out 1 (.bool false) rfl
    have f1 := bfz HX2.out 1
    have y2 := bcv HX2.out 2 (.bool false) rfl
    have f2 := bfz HX2.out 2
    have y3 := bcv HX2.out 3 (.bool false) rfl
    have f3 := bfz HX2.out 3
    have y4 := bcv HX2.out 4 (.bool false) rfl
    have f4 := bfz HX2.out 4
    have y5 := bcv HX2.out 5 (.bool false) rfl
    have f5 := bfz HX2.out 5
    have y6 := bcv HX2.out 6 (.int .i64 0) rfl
    have f6 := bfz HX2.out 6
    have y7 := bcv HX2.out 7 (.int .i64 0) rfl
    have f7 := bfz HX2.out 7
    have y8 := bcv HX2.out 8 (.int .i64 0) rfl
    have f8 := bfz HX2.out 8
    obtain ⟨q4, qh⟩ := HC2.out.told2 HX2.out HG0.out 1 true true false false false 0 0 0
    go_wp2_with fail
    generalize ((((((((wx.setCell ⟨b, 0, none⟩ (.int .i64 1)).setCell ⟨b, 1, none⟩ (.bool true)).setCell ⟨b, 2, none⟩ (.bool true)).setCell ⟨b, 3, none⟩ (.bool false)).setCell ⟨b, 4, none⟩ (.bool false)).setCell ⟨b, 5, none⟩ (.bool false)).setCell ⟨b, 6, none⟩ (.int .i64 0)).setCell ⟨b, 7, none⟩ (.int .i64 0)).setCell ⟨b, 8, none⟩ (.int .i64 0) = wz at q4 qh ⊢
    go_roundw
    case rel => exact ⟨16, by decide, rfl, ⟨fun h => absurd h (by decide)⟩, ⟨q4⟩, ⟨qh.hb⟩⟩
    case measure => decide
   ·
    have h16 : k = 16 := by omega
    subst h16
    have hc16 : ((16 : Nat) : Int) = 16 := rfl
    replace HX := am (show wr.heap[b]? = some (.cells FIN 39 (0, 0)) from HX.out)
    unfold FIN toldV at HX
    have y0 := bcv HX.out 0 (.int .i64 1) rfl
    have y1 := bcv HX.out 1 (.bool true) rfl
    have y2 := bcv HX.out 2 (.bool true) rfl
    have y3 := bcv HX.out 3 (.bool false) rfl
    have y4 := bcv HX.out 4 (.bool false) rfl
    have y5 := bcv HX.out 5 (.bool false) rfl
    have y6 := bcv HX.out 6 (.int .i64 0) rfl
    have y7 := bcv HX.out 7 (.int .i64 0) rfl
    have y8 := bcv HX.out 8 (.int .i64 0) rfl
    clear hlt h15
    go_wp2_with fail
    go_ret
    exact ⟨rfl, HB.out⟩
set_option maxRecDepth 100000 in
set_option maxHeartbeats 4000000 in
theorem fcopy_any (w : World) (f : Nat) (c : Cf) (last run : Int) (hF : w.heap[f]? = some (.cells (feedV last run c) 101 (0, 0))) :
  Calls Tryz.prog 38 #[.pointer (some ⟨f, 0, none⟩)] w fun e w' => ∃ f2 : Nat, e = .returned (.pointer (some ⟨f2, 0, none⟩)) ∧ w'.heap[f2]? = some (.cells (feedV last run c) 101 (0, 0)) ∧ w.heap.size ≤ f2 ∧ Below w.heap.size w w' := by
 have HF := am hF
 clear hF
 go_enter Tryz.func38, Tryz.ntmps38
 go_upto_region 1 with fail
 iterate 8 go_step
 refine wp_load_row 101 (.tmp 5) rfl f rfl 101 (feedV last run c) (0, 0) _ HF.out Tryz.underlying101 rfl (by kernel_rfl) ?_
 iterate 5 go_step
 refine wp_store_row 101 (.tmp 3) (.tmp 6) rfl w.heap.size (feedV last run c) rfl rfl 101 _ (heap_alloc_last w _) (by kernel_rfl) (by kernel_rfl) (by kernel_rfl) ?_
 rw [World.setRow_alloc_new]
 have HX := am (blk_new w (.cells (feedV last run c) 101))
 have HB := am (below_alloc (Below.refl w.heap.size w) (.cells (feedV last run c) 101))
 have HS := am (Nat.le_refl w.heap.size)
 generalize w.alloc (.cells (feedV last run c) 101) = w1 at HX HB ⊢
 obtain ⟨b, hb⟩ : ∃ b, b = w.heap.size := ⟨_, rfl⟩
 rw [← hb] at HX ⊢
 have HS := am (show w.heap.size ≤ b by omega)
 clear hb
 go_wp2_with fail
 go_ret
 exact ⟨b, rfl, HX.out, HS.out, HB.out⟩
set_option maxRecDepth 100000 in
set_option maxHeartbeats 4000000 in
theorem copy_any (w0 w : World) (g f gr : Nat) (s : Gs) (c : Cf) (v : Value) (mode since last run band noise rough count : Int) (known : Bool) (l : List Int) (hl : l.length ≤ 15) (h : Chan w0 w g f gr s c v mode since last run band noise rough count known l) :
  Calls Tryz.prog 17 #[.pointer (some ⟨g, 0, none⟩)] w fun e w' => ∃ (g2 f2 gr2 : Nat) (v2 : Value), e = .returned (.pointer (some ⟨g2, 0, none⟩)) ∧ Chan w w' g2 f2 gr2 s c v2 mode since last run band noise rough count known l := by
 obtain ⟨A, cc, rfl, hcc, hrd⟩ := Kd.R_reads h.hr
 have HH := am h
 clear h
 go_enter Tryz.func17, Tryz.ntmps17
 go_upto_region 1 with fail
 iterate 8 go_step
 refine wp_load_row 56 (.tmp 6) rfl g rfl 56 (chanV s c f gr (.slice A l.length cc) mode since) (0, 0) _ HH.out.hg Tryz.underlying56 rfl (by kernel_rfl) ?_
 iterate 5 go_step
 refine wp_store_row 56 (.tmp 3) (.tmp 7) rfl w.heap.size (chanV s c f gr (.slice A l.length cc) mode since) rfl rfl 56 _ (heap_alloc_last w _) (by kernel_rfl) (by kernel_rfl) (by kernel_rfl) ?_
 rw [World.setRow_alloc_new]
 have HX := am (blk_new w (.cells (chanV s c f gr (.slice A l.length cc) mode since) 56))
 have HB := am (below_alloc (Below.refl w.heap.size w) (.cells (chanV s c f gr (.slice A l.length cc) mode since) 56))
 generalize w.alloc (.cells (chanV s c f gr (.slice A l.length cc) mode since) 56) = w1 at HX HB ⊢
 obtain ⟨b, hb⟩ : ∃ b, b = w.heap.size := ⟨_, rfl⟩
 have gb : w.heap.size ≤ b := by omega
 rw [← hb] at HX ⊢
 clear hb hrd
 go_upto_region 2 with fail
 refine start_ (n := 14) (S := fun w' => w'.heap[g]? = some (.cells (chanV s c f gr (.slice A l.length cc) mode since) 56 (0, 0))) (ds := []) (flg 14 0) (by kernel_rfl) rfl rfl (HH.out.below HB.out).hg (fun hHeld => ?_)
 replace HX := am (blk_drew HX.out)
 replace HB := am (below_drew HB.out)
 generalize w1.drew = W1 at HX HB hHeld ⊢
 refine pure_ (i := 0) (N := (some 8)) (v := ?_) (a' := ?_) (flg 14 1) rfl rfl (by kernel_rfl) (fun _ _ _ h => h) (Or.inl ⟨by rfl, ?_⟩) ?_ ?_
 rotate_left
 ·
  intro w'
  go_simp
  with_reducible rfl
 rotate_left
 ·
  simp only [pw]
  rfl
 refine pure_ (i := 1) (N := (some 9)) (v := ?_) (a' := ?_) (flg 14 3) rfl rfl (by kernel_rfl) (fun _ _ _ h => h) (Or.inl ⟨by rfl, ?_⟩) ?_ ?_
 rotate_left
 ·
  intro w'
  go_simp
  with_reducible rfl
 rotate_left
 ·
  simp only [pw]
  rfl
 refine pure_ (i := 2) (N := (some 10)) (v := ?_) (a' := ?_) (flg 14 7) rfl rfl (by kernel_rfl) (fun _ _ _ h => h) (Or.inl ⟨by rfl, ?_⟩) ?_ ?_
 rotate_left
 ·
  intro w'
  go_simp
  with_reducible rfl
 rotate_left
 ·
  simp only [pw]
  rfl
 refine take_ (i := 3) (N := (some 11)) (v := ?_) (a' := ?_) (flg 14 15) rfl rfl (by kernel_rfl) (fun _ _ _ h => h) (Or.inl ⟨by rfl, ?_⟩) hHeld ?_ ?_
 rotate_left
 ·
  rintro w' s0
  have x := bcv s0 40 (.pointer (some ⟨f, 0, none⟩)) rfl
  go_simp
  with_reducible rfl
 rotate_left
 ·
  simp only [pw]
  rfl
 refine pure_ (i := 5) (N := (some 13)) (v := ?_) (a' := ?_) (flg 14 47) rfl rfl (by kernel_rfl) (fun _ _ _ h => h) (Or.inl ⟨by rfl, ?_⟩) ?_ ?_
 rotate_left
 ·
  intro w'
  go_simp
  with_reducible rfl
 rotate_left
 ·
  simp only [pw]
  rfl
 refine pure_ (i := 6) (N := (some 14)) (v := ?_) (a' := ?_) (flg 14 111) rfl rfl (by kernel_rfl) (fun _ _ _ h => h) (Or.inl ⟨by rfl, ?_⟩) ?_ ?_
 rotate_left
 ·
  intro w'
  go_simp
  with_reducible rfl
 rotate_left
 ·
  simp only [pw]
  rfl
 refine pure_ (i := 7) (N := (some 15)) (v := ?_) (a' := ?_) (flg 14 239) rfl rfl (by kernel_rfl) (fun _ _ _ h => h) (Or.inl ⟨by rfl, ?_⟩) ?_ ?_
 rotate_left
 ·
  intro w'
  go_simp
  with_reducible rfl
 rotate_left
 ·
  simp only [pw]
  rfl
 refine take_ (i := 8) (N := (some 16)) (v := ?_) (a' := ?_) (flg 14 495) rfl rfl (by kernel_rfl) (fun _ _ _ h => h) (Or.inl ⟨by rfl, ?_⟩) hHeld ?_ ?_
 rotate_left
 ·
  rintro w' s0
  have x := bcv s0 41 (.slice A l.length cc) rfl
  go_simp
  with_reducible rfl
 rotate_left
 ·
  simp only [pw]
  rfl
 refine one_ (i := 4) (N := (some 12)) (flg 14 511) rfl rfl (by kernel_rfl) (by decide) (fun K hK => ?_)
 refine goes_ Tryz.func38 (by kernel_rfl) rfl #[.pointer (some ⟨f, 0, none⟩)] (by rfl) rfl rfl (by (try simp only [List.map_toArray, List.map_cons, List.map_nil]); first | done | rfl) ?_
 refine (fcopy_any W1 f c last run (HH.out.below HB.out).hf).mono ?_
 rintro e W2 ⟨f2, rfl, hF, hf, hb⟩
 replace HX := am (blk_below HX.out hb)
 have HF := am hF
 have gf : w.heap.size ≤ f2 := Nat.le_trans HB.out.size hf
 replace HB := am (below_step HB.out hb)
 clear hF hf hb hHeld
 refine ⟨_, rfl, ?_⟩
 refine hK.out _ _ (HH.out.below HB.out).hg (fun hHeld => ?_)
 clear hK K
 refine norm_ (a' := ?_) ?_ ?_
 rotate_left
 ·
  show Act.put _ (some 12) _ = _
  simp only [pw]
  rfl
 refine one_ (i := 9) (N := (some 17)) (flg 14 1023) rfl rfl (by kernel_rfl) (by decide) (fun K hK => ?_)
 refine Kd.R_append_rows_step (Kd.int .i64) (w0 := w) w.heap.size (by rfl) (.const (.slice none 0 0)) (.tmp 16) 43 2 (.int .i64 0) 8 rfl Tryz.underlying43 info2 rfl (by decide) (by decide) (.slice none 0 0) [] l A l.length cc (fun _ => True) (fun _ => False) rfl rfl (Kd.R_nil _ _ _ _ _) (Kd.R_reads' (HH.out.below HB.out).hr).2.2 (fun _ _ h => h) (fun _ h => h.elim) (fun _ _ => trivial) HB.out HB.out.size (by simp; omega) ?_
 intro v1 W3 hr1 hb1 hg1 hat1
 rw [List.nil_append] at hr1
 obtain ⟨A1, c1, rfl⟩ := Kd.R_slice hr1
 have HR := am hr1
 replace HX := am (blk_grown HX.out hg1 (by simp [Value.ownBlock]))
 replace HF := am (blk_grown HF.out hg1 (by simp [Value.ownBlock]))
 replace HB := am hb1
 clear hr1 hb1 hg1 hat1 hHeld
 refine hK.out _ _ (HH.out.below HB.out).hg (fun hHeld => ?_)
 clear hK K
 refine norm_ (a' := ?_) ?_ ?_
 rotate_left
 ·
  show Act.put _ (some 17) _ = _
  simp only [pw]
  rfl
 refine pure_ (i := 10) (N := (some 18)) (v := ?_) (a' := ?_) (flg 14 2047) rfl rfl (by kernel_rfl) (fun _ _ _ h => h) (Or.inl ⟨by rfl, ?_⟩) ?_ ?_
 rotate_left
 ·
  intro w'
  go_simp
  with_reducible rfl
 rotate_left
 ·
  simp only [pw]
  rfl
 have yb := bcv HX.out 40 (.pointer (some ⟨f, 0, none⟩)) rfl
 have fb := bfz HX.out 40
 refine one_ (i := 11) (N := none) (flg 14 4095) rfl rfl (by kernel_rfl) (by decide) (fun K hK => ?_)
 refine skip_ (w1 := W3.setCell ⟨b, 40, none⟩ (.pointer (some ⟨f2, 0, none⟩))) (by rfl) rfl (by first | (go_simp; done) | (go_simp; rfl)) ?_
 clear hHeld yb fb
 have qx := (blk_set HX.out 40 (.pointer (some ⟨f2, 0, none⟩))).trans (show _ = some (Obj.cells (chanV s c f2 gr (.slice A l.length cc) mode since) 56 (0, 0)) by kernel_rfl)
 have qf := blk_far HF.out (p := ⟨b, 40, none⟩) (blk_ne HF.out HX.out (by decide)) (.pointer (some ⟨f2, 0, none⟩))
 have qr := Kd.R_mono (Kd.R_far (p := ⟨b, 40, none⟩) (Kd.R_tight rfl HR.out) (fun k hk e => (Kd.R_ne HR.out HX.out (by decide)) (by rw [← hk, e])) (.pointer (some ⟨f2, 0, none⟩))) (fun _ _ => trivial)
 have qb := HB.out.setCell (p := ⟨b, 40, none⟩) gb (.pointer (some ⟨f2, 0, none⟩))
 clear HX HF HR HB
 generalize W3.setCell ⟨b, 40, none⟩ (.pointer (some ⟨f2, 0, none⟩)) = W4 at qx qf qr qb ⊢
 have HX := am qx
 have HF := am qf
 have HR := am (show Kd.R (Kd.int .i64) 2 W4 w.heap.size (fun _ => True) (.slice A1 l.length c1) l from qr)
 have HB := am qb
 clear qx qf qr qb
 refine hK.out _ _ (HH.out.below HB.out).hg (fun hHeld => ?_)
 clear hK K
 refine pure_ (i := 12) (N := (some 19)) (v := ?_) (a' := ?_) (flg 14 8191) rfl rfl (by kernel_rfl) (fun _ _ _ h => h) (Or.inl ⟨by rfl, ?_⟩) ?_ ?_
 rotate_left
 ·
  intro w'
  go_simp
  with_reducible rfl
 rotate_left
 ·
  simp only [pw]
  rfl
 have yb := bcv HX.out 41 (.slice A l.length cc) rfl
 have fb := bfz HX.out 41
 refine one_ (i := 13) (N := none) (flg 14 16383) rfl rfl (by kernel_rfl) (by decide) (fun K hK => ?_)
 refine skip_ (w1 := W4.setCell ⟨b, 41, none⟩ (.slice A1 l.length c1)) (by rfl) rfl (by first | (go_simp; done) | (go_simp; rfl)) ?_
 clear hHeld yb fb
 have qx := (blk_set HX.out 41 (.slice A1 l.length c1)).trans (show _ = some (Obj.cells (chanV s c f2 gr (.slice A1 l.length c1) mode since) 56 (0, 0)) by kernel_rfl)
 have qf := blk_far HF.out (p := ⟨b, 41, none⟩) (blk_ne HF.out HX.out (by decide)) (.slice A1 l.length c1)
 have qr := Kd.R_mono (Kd.R_far (p := ⟨b, 41, none⟩) (Kd.R_tight rfl HR.out) (fun k hk e => (Kd.R_ne HR.out HX.out (by decide)) (by rw [← hk, e])) (.slice A1 l.length c1)) (fun _ _ => trivial)
 have qb := HB.out.setCell (p := ⟨b, 41, none⟩) gb (.slice A1 l.length c1)
 clear HX HF HR HB
 generalize W4.setCell ⟨b, 41, none⟩ (.slice A1 l.length c1) = W5 at qx qf qr qb ⊢
 have HX := am qx
 have HF := am qf
 have HR := am (show Kd.R (Kd.int .i64) 2 W5 w.heap.size (fun _ => True) (.slice A1 l.length c1) l from qr)
 have HB := am qb
 clear qx qf qr qb
 refine hK.out _ _ (HH.out.below HB.out).hg (fun hHeld => ?_)
 clear hK K
 refine done_ (by kernel_rfl) ?_
 have yg := (blk_cell (HH.out.below HB.out).hg 42).trans (show _ = some (.pointer (some ⟨gr, 0, none⟩)) from rfl)
 have i0 := cellS93_0 (HH.out.below HB.out).hi.1
 have i1 := cellS93_1 (HH.out.below HB.out).hi.1
 have i2 := cellS93_2 (HH.out.below HB.out).hi.1
 have i3 := cellS93_3 (HH.out.below HB.out).hi.1
 have i4 := cellS93_4 (HH.out.below HB.out).hi.1
 go_upto_region 4 with fail
 clear yg i0 i1 i2 i3 i4
 have n4b : b ≠ W5.heap.size := Nat.ne_of_lt (blk_lt HX.out)
 have g4 : w.heap.size ≤ W5.heap.size := HB.out.size
 have HI := am (show IsS93 w (W5.alloc (.cells #[.int .i64 band, .int .i64 noise, .int .i64 rough, .int .i64 count, .bool known] 93)) W5.heap.size band noise rough count known from ⟨blk_new W5 (.cells #[.int .i64 band, .int .i64 noise, .int .i64 rough, .int .i64 count, .bool known] 93), g4⟩)
 replace HX := am (blk_alloc HX.out (.cells #[.int .i64 band, .int .i64 noise, .int .i64 rough, .int .i64 count, .bool known] 93))
 replace HF := am (blk_alloc HF.out (.cells #[.int .i64 band, .int .i64 noise, .int .i64 rough, .int .i64 count, .bool known] 93))
 replace HR := am (Kd.R_below HR.out (below_alloc (Below.refl W5.heap.size W5) (.cells #[.int .i64 band, .int .i64 noise, .int .i64 rough, .int .i64 count, .bool known] 93)))
 replace HB := am (below_alloc HB.out (.cells #[.int .i64 band, .int .i64 noise, .int .i64 rough, .int .i64 count, .bool known] 93))
 generalize W5.alloc (.cells #[.int .i64 band, .int .i64 noise, .int .i64 rough, .int .i64 count, .bool known] 93) = W6 at HI HX HF HR HB ⊢
 generalize W5.heap.size = b4 at HI g4 n4b ⊢
 have yb := bcv HX.out 42 (.pointer (some ⟨gr, 0, none⟩)) rfl
 have fb := bfz HX.out 42
 go_upto_region 5 with fail
 clear yb fb
 have qx := (blk_set HX.out 42 (.pointer (some ⟨b4, 0, none⟩))).trans (show _ = some (Obj.cells (chanV s c f2 b4 (.slice A1 l.length c1) mode since) 56 (0, 0)) by kernel_rfl)
 have qf := blk_far HF.out (p := ⟨b, 42, none⟩) (blk_ne HF.out HX.out (by decide)) (.pointer (some ⟨b4, 0, none⟩))
 have qr := Kd.R_mono (Kd.R_far (p := ⟨b, 42, none⟩) (Kd.R_tight rfl HR.out) (fun k hk e => (Kd.R_ne HR.out HX.out (by decide)) (by rw [← hk, e])) (.pointer (some ⟨b4, 0, none⟩))) (fun _ _ => trivial)
 have qb := HB.out.setCell (p := ⟨b, 42, none⟩) gb (.pointer (some ⟨b4, 0, none⟩))
 have qi := HI.out.far (p := ⟨b, 42, none⟩) (HI.out.ne_blk HX.out (by decide)) (.pointer (some ⟨b4, 0, none⟩))
 clear HX HF HR HB HI
 generalize W6.setCell ⟨b, 42, none⟩ (.pointer (some ⟨b4, 0, none⟩)) = W7 at qx qf qr qb qi ⊢
 have HX := am qx
 have HF := am qf
 have HR := am (show Kd.R (Kd.int .i64) 2 W7 w.heap.size (fun _ => True) (.slice A1 l.length c1) l from qr)
 have HB := am qb
 have HI := am qi
 clear qx qf qr qb qi
 go_wp2_with fail
 go_ret
 exact ⟨b, f2, b4, .slice A1 l.length c1, rfl, HX.out, HF.out, HI.out, HR.out, gb, gf, HB.out⟩
end Go.Proofs.YtpdahkgandaabaaGreatDoor.Ch
