/- A part of the proof of TopAgain, where the package's tables hold what their initialisers lay. -/
import Derived.Test.YtpdahkgandaabaaGreatDoorT01
import Derived.Test.YtpdahkgandaabaaGreatDoorT10
import Derived.Test.YtpdahkgandaabaaGreatDoorT20
namespace Go.Proofs.YtpdahkgandaabaaGreatDoor.Ch
open Go.RowKit Go.Proofs.YtpdahkgandaabaaGreatDoorW.PrintWords Go.Proofs.YtpdahkgandaabaaGreatDoorW.PrintLast Go.Proofs.YtpdahkgandaabaaGreatDoorW.PrintMore Go.Proofs.YtpdahkgandaabaaGreatDoor.PTopNames Go.Proofs.YtpdahkgandaabaaGreatDoor.Al
set_option linter.unusedVariables false
set_option linter.unusedSimpArgs false
def toldV (m : Int) (va ac re he gr : Bool) (al sp bi : Int) : Array Value := #[.int .i64 m, .bool va, .bool ac, .bool re, .bool he, .bool gr, .int .i64 al, .int .i64 sp, .int .i64 bi]
theorem brings_yes (a p : Int) (sh : Bool) (h : good p = true) : baro_Brings.f a true p sh = some (p, true) := by
 unfold baro_Brings.f baro_kind.f
 rw [if_pos rfl, Mo.atmos_good, h]
 rfl
structure Mid where
 (ev : Int) (ac re gr : Bool) (s : Gs) (count : Int) (known : Bool) (l : List Int)
def MoveOk (c : Cf) (s : Gs) (th : Int) (hd : Bool) (s' : Gs) : Prop := ∀ (w0 w : World) (g f gr : Nat) (v : Value) (mode since last run band noise rough count : Int) (known : Bool) (l : List Int), G w0 → Chan w0 w g f gr s c v mode since last run band noise rough count known l →
  Calls Tryz.prog 26 #[.pointer (some ⟨g, 0, none⟩), th, .bool hd] w fun e w' => e = .returned (.tuple #[]) ∧ Chan w0 w' g f gr s' c v mode since last run band noise rough count known l ∧ Kept w w' (fun k => k = g)
def TakeOk (c : Cf) (s : Gs) (band noise rough count : Int) (known : Bool) (cn : Int) (sh tk nr : Bool) (s' : Gs) : Prop := ∀ (w0 w : World) (g f gr : Nat) (v : Value) (mode since last run : Int) (l : List Int), G w0 → Chan w0 w g f gr s c v mode since last run band noise rough count known l →
  Calls Tryz.prog 27 #[.pointer (some ⟨g, 0, none⟩), cn, .bool sh] w fun e w' => e = .returned (.tuple #[.bool tk, .bool nr]) ∧ Chan w0 w' g f gr s' c v mode since last run band noise rough count known l ∧ Kept w w' (fun k => k = g)
structure MidOk (c : Cf) (s : Gs) (mode th : Int) (hd lo ok sh : Bool) (cn band noise rough count : Int) (known : Bool) (l : List Int) (m : Mid) : Prop where
 fall : lo = true → m = ⟨3, false, false, false, s, count, known, l⟩
 none : lo = false → seeksB mode = true → ok = false → m = ⟨2, false, false, false, s, count, known, l⟩
 more : lo = false → seeksB mode = true → ok = true → l.length < 15 → m = ⟨2, false, false, false, s, count, known, l ++ [cn]⟩
 last : lo = false → seeksB mode = true → ok = true → l.length = 15 → ∃ mn em, mean_Of.f 20 (l ++ [cn]) = some (mn, em) ∧ m = ⟨0, true, false, false, ⟨if good mn then alt mn else 0, 0, 0, c.s0, 0, 0, c.s1, 0, c.s2⟩, (if good mn && !known then mn else count), (known || good mn), l ++ [cn]⟩
 moved : lo = false → seeksB mode = false → ∃ s1, MoveOk c s th hd s1 ∧ (ok = false → m = ⟨2, false, false, false, s1, count, known, l⟩) ∧ (ok = true → ∃ tk nr s2, TakeOk c s1 band noise rough count known cn sh tk nr s2 ∧ m = ⟨if tk then 1 else 2, tk, !tk, nr, s2, count, known, l⟩)
theorem mid_ex (c : Cf) (s : Gs) (mode th : Int) (hd lo ok sh : Bool) (cn band noise rough count : Int) (known : Bool) (l : List Int) (hl : l.length ≤ 15) : ∃ m, MidOk c s mode th hd lo ok sh cn band noise rough count known l m ∧ m.l.length ≤ 16 ∧ (m.ev ≠ 0 → m.l.length ≤ 15) := by
 cases lo with
 | true => exact ⟨⟨3, false, false, false, s, count, known, l⟩, ⟨fun _ => rfl, nofun, nofun, nofun, nofun⟩, by simp; omega, fun _ => hl⟩
 | false =>
  cases hs : seeksB mode with
  | true =>
   cases ok with
   | false => exact ⟨⟨2, false, false, false, s, count, known, l⟩, ⟨nofun, fun _ _ _ => rfl, fun _ _ h => absurd h (by decide), fun _ _ h => absurd h (by decide), fun _ h => absurd (hs.symm.trans h) (by decide)⟩, by simp; omega, fun _ => hl⟩
   | true =>
    by_cases h : l.length < 15
    ·
     exact ⟨⟨2, false, false, false, s, count, known, l ++ [cn]⟩, ⟨nofun, fun _ _ h => absurd h (by decide), fun _ _ _ _ => rfl, fun _ _ _ h2 => by omega, fun _ h => absurd (hs.symm.trans h) (by decide)⟩, by simp; omega, fun _ => by simp; omega⟩
    have h15 : l.length = 15 := by omega
    obtain ⟨mn, em, hm⟩ := mean_ex (l ++ [cn]) (by simp [h15])
    exact ⟨_, ⟨nofun, fun _ _ h => absurd h (by decide), fun _ _ _ h2 => absurd h2 h, fun _ _ _ _ => ⟨mn, em, hm, rfl⟩, fun _ h => absurd (hs.symm.trans h) (by decide)⟩, by simp [h15], fun h0 => absurd rfl h0⟩
  | false =>
   obtain ⟨s1, h1⟩ := move_ex c s th hd
   cases ok with
   | false => exact ⟨_, ⟨nofun, fun _ h => absurd (hs.symm.trans h) (by decide), fun _ h => absurd (hs.symm.trans h) (by decide), fun _ h => absurd (hs.symm.trans h) (by decide), fun _ _ => ⟨s1, h1, fun _ => rfl, nofun⟩⟩, by simp; omega, fun _ => hl⟩
   | true =>
    obtain ⟨tk, nr, s2, h2⟩ := take_ex c s1 band noise rough count known cn sh
    exact ⟨_, ⟨nofun, fun _ h => absurd (hs.symm.trans h) (by decide), fun _ h => absurd (hs.symm.trans h) (by decide), fun _ h => absurd (hs.symm.trans h) (by decide), fun _ _ => ⟨s1, h1, nofun, fun _ => ⟨tk, nr, s2, h2, rfl⟩⟩⟩, by simp; omega, fun _ => hl⟩
theorem lit146 (T : Array Value) (h : T.size = 146) : ∃ S : Nat → Value, T = #[S 0, S 1, S 2, S 3, S 4, S 5, S 6, S 7, S 8, S 9, S 10, S 11, S 12, S 13, S 14, S 15, S 16, S 17, S 18, S 19, S 20, S 21, S 22, S 23, S 24, S 25, S 26, S 27, S 28, S 29, S 30, S 31, S 32, S 33, S 34, S 35, S 36, S 37, S 38, S 39, S 40, S 41, S 42, S 43, S 44, S 45, S 46, S 47, S 48, S 49, S 50, S 51, S 52, S 53, S 54, S 55, S 56, S 57, S 58, S 59, S 60, S 61, S 62, S 63, S 64, S 65, S 66, S 67, S 68, S 69, S 70, S 71, S 72, S 73, S 74, S 75, S 76, S 77, S 78, S 79, S 80, S 81, S 82, S 83, S 84, S 85, S 86, S 87, S 88, S 89, S 90, S 91, S 92, S 93, S 94, S 95, S 96, S 97, S 98, S 99, S 100, S 101, S 102, S 103, S 104, S 105, S 106, S 107, S 108, S 109, S 110, S 111, S 112, S 113, S 114, S 115, S 116, S 117, S 118, S 119, S 120, S 121, S 122, S 123, S 124, S 125, S 126, S 127, S 128, S 129, S 130, S 131, S 132, S 133, S 134, S 135, S 136, S 137, S 138, S 139, S 140, S 141, S 142, S 143, S 144, S 145] := by
 refine ⟨fun k => T.getD k undef, ?_⟩
 refine (show T = ((List.range 146).map (fun k => T.getD k undef)).toArray from ?_).trans rfl
 apply Array.ext
 ·
  simp [h]
 intro i h1 h2
 simp [h1]
theorem slit17 (T : Array Value) (v0 v4 v5 v11 v12 : Value) (h : T.size = 146) (e0 : T.getD 0 undef = v0) (e4 : T.getD 4 undef = v4) (e5 : T.getD 5 undef = v5) (e11 : T.getD 11 undef = v11) (e12 : T.getD 12 undef = v12) : ∃ S : Nat → Value, T = #[v0, S 1, S 2, S 3, v4, v5, S 6, S 7, S 8, S 9, S 10, v11, v12, S 13, S 14, S 15, S 16, S 17, S 18, S 19, S 20, S 21, S 22, S 23, S 24, S 25, S 26, S 27, S 28, S 29, S 30, S 31, S 32, S 33, S 34, S 35, S 36, S 37, S 38, S 39, S 40, S 41, S 42, S 43, S 44, S 45, S 46, S 47, S 48, S 49, S 50, S 51, S 52, S 53, S 54, S 55, S 56, S 57, S 58, S 59, S 60, S 61, S 62, S 63, S 64, S 65, S 66, S 67, S 68, S 69, S 70, S 71, S 72, S 73, S 74, S 75, S 76, S 77, S 78, S 79, S 80, S 81, S 82, S 83, S 84, S 85, S 86, S 87, S 88, S 89, S 90, S 91, S 92, S 93, S 94, S 95, S 96, S 97, S 98, S 99, S 100, S 101, S 102, S 103, S 104, S 105, S 106, S 107, S 108, S 109, S 110, S 111, S 112, S 113, S 114, S 115, S 116, S 117, S 118, S 119, S 120, S 121, S 122, S 123, S 124, S 125, S 126, S 127, S 128, S 129, S 130, S 131, S 132, S 133, S 134, S 135, S 136, S 137, S 138, S 139, S 140, S 141, S 142, S 143, S 144, S 145] := by
 obtain ⟨S, rfl⟩ := lit146 T h
 replace e0 : S 0 = v0 := e0
 replace e4 : S 4 = v4 := e4
 replace e5 : S 5 = v5 := e5
 replace e11 : S 11 = v11 := e11
 replace e12 : S 12 = v12 := e12
 exact ⟨S, by rw [← e0, ← e4, ← e5, ← e11, ← e12]⟩
theorem slit20 (T : Array Value) (v0 v4 v5 : Value) (h : T.size = 146) (e0 : T.getD 0 undef = v0) (e4 : T.getD 4 undef = v4) (e5 : T.getD 5 undef = v5) : ∃ S : Nat → Value, T = #[v0, S 1, S 2, S 3, v4, v5, S 6, S 7, S 8, S 9, S 10, S 11, S 12, S 13, S 14, S 15, S 16, S 17, S 18, S 19, S 20, S 21, S 22, S 23, S 24, S 25, S 26, S 27, S 28, S 29, S 30, S 31, S 32, S 33, S 34, S 35, S 36, S 37, S 38, S 39, S 40, S 41, S 42, S 43, S 44, S 45, S 46, S 47, S 48, S 49, S 50, S 51, S 52, S 53, S 54, S 55, S 56, S 57, S 58, S 59, S 60, S 61, S 62, S 63, S 64, S 65, S 66, S 67, S 68, S 69, S 70, S 71, S 72, S 73, S 74, S 75, S 76, S 77, S 78, S 79, S 80, S 81, S 82, S 83, S 84, S 85, S 86, S 87, S 88, S 89, S 90, S 91, S 92, S 93, S 94, S 95, S 96, S 97, S 98, S 99, S 100, S 101, S 102, S 103, S 104, S 105, S 106, S 107, S 108, S 109, S 110, S 111, S 112, S 113, S 114, S 115, S 116, S 117, S 118, S 119, S 120, S 121, S 122, S 123, S 124, S 125, S 126, S 127, S 128, S 129, S 130, S 131, S 132, S 133, S 134, S 135, S 136, S 137, S 138, S 139, S 140, S 141, S 142, S 143, S 144, S 145] := by
 obtain ⟨S, rfl⟩ := lit146 T h
 replace e0 : S 0 = v0 := e0
 replace e4 : S 4 = v4 := e4
 replace e5 : S 5 = v5 := e5
 exact ⟨S, by rw [← e0, ← e4, ← e5]⟩
theorem slit23 (T : Array Value) (v4 v5 : Value) (h : T.size = 146) (e4 : T.getD 4 undef = v4) (e5 : T.getD 5 undef = v5) : ∃ S : Nat → Value, T = #[S 0, S 1, S 2, S 3, v4, v5, S 6, S 7, S 8, S 9, S 10, S 11, S 12, S 13, S 14, S 15, S 16, S 17, S 18, S 19, S 20, S 21, S 22, S 23, S 24, S 25, S 26, S 27, S 28, S 29, S 30, S 31, S 32, S 33, S 34, S 35, S 36, S 37, S 38, S 39, S 40, S 41, S 42, S 43, S 44, S 45, S 46, S 47, S 48, S 49, S 50, S 51, S 52, S 53, S 54, S 55, S 56, S 57, S 58, S 59, S 60, S 61, S 62, S 63, S 64, S 65, S 66, S 67, S 68, S 69, S 70, S 71, S 72, S 73, S 74, S 75, S 76, S 77, S 78, S 79, S 80, S 81, S 82, S 83, S 84, S 85, S 86, S 87, S 88, S 89, S 90, S 91, S 92, S 93, S 94, S 95, S 96, S 97, S 98, S 99, S 100, S 101, S 102, S 103, S 104, S 105, S 106, S 107, S 108, S 109, S 110, S 111, S 112, S 113, S 114, S 115, S 116, S 117, S 118, S 119, S 120, S 121, S 122, S 123, S 124, S 125, S 126, S 127, S 128, S 129, S 130, S 131, S 132, S 133, S 134, S 135, S 136, S 137, S 138, S 139, S 140, S 141, S 142, S 143, S 144, S 145] := by
 obtain ⟨S, rfl⟩ := lit146 T h
 replace e4 : S 4 = v4 := e4
 replace e5 : S 5 = v5 := e5
 exact ⟨S, by rw [← e4, ← e5]⟩
set_option maxRecDepth 100000 in
set_option maxHeartbeats 8000000 in
theorem step_any (c : Cf) (hck : checkR c = 0) (s : Gs) (mode since last run band noise rough count : Int) (known : Bool) (l : List Int) (hl : l.length ≤ 15) (a p : Int) (has sh : Bool) (th rn cn : Int) (hd lo ok : Bool) (m : Mid) (m2 s2 al sp bi : Int)
  (hth : inT c last a = th) (hrn : inRun c run a = rn) (hhd : clipped c a = hd) (hlo : inLost c run a = lo) (hbr : baro_Brings.f a has p sh = some (cn, ok)) (hm : MidOk c s mode th hd lo ok sh cn band noise rough count known l m)
  (hon : mode_Clock_On.f 5 mode since m.ev c.coast c.out = some (m2, s2)) (h0 : Tells 30 #[m.s.x0] (.int .i64 al)) (h1 : Tells 30 #[m.s.x1] (.int .i64 sp)) (h2 : Tells 30 #[m.s.x2] (.int .i64 bi))
  (w0 w : World) (g f gr : Nat) (v : Value) (hG : G w0) (h : Chan w0 w g f gr s c v mode since last run band noise rough count known l) :
  Calls Tryz.prog 10 #[.pointer (some ⟨g, 0, none⟩), .agg #[a, .bool has, p, .bool sh]] w fun e w' => ∃ v', e = .returned (.agg (toldV m2 (validB m2) m.ac m.re hd m.gr (if validB m2 then al else 0) (if validB m2 then sp else 0) (if validB m2 then bi else 0))) ∧ Chan w0 w' g f gr m.s c v' m2 s2 th rn band noise rough m.count m.known (if (m.ev == 0 || (m.ev == 3 || (seeksB m2 && !seeksB mode))) then [] else m.l) ∧ Kept w w' (fun k => k = g ∨ k = f ∨ k = gr ∨ v.ownBlock = some k) ∧ OwT w v v' := by
 have hin : ∀ (w1 : World), w1.heap[f]? = some (.cells (feedV last run c) 101 (0, 0)) → w0.heap.size ≤ f → Below w0.heap.size w0 w1 → Calls Tryz.prog 22 #[.pointer (some ⟨f, 0, none⟩), a] w1 fun e w' => e = .returned (.tuple #[th, .bool hd, .bool lo]) ∧ w'.heap[f]? = some (.cells (feedV th rn c) 101 (0, 0)) ∧ Below w0.heap.size w0 w' ∧ KeepBut w1 w' f none := fun w1 hF hf hB => by
  have := in_any w0 w1 f c last run a hF hf hB hck
  rw [hth, hrn, hhd, hlo] at this
  exact this
 obtain ⟨L, hL⟩ : ∃ L : List Int, L = (if (m.ev == 0 || (m.ev == 3 || (seeksB m2 && !seeksB mode))) then [] else m.l) := ⟨_, rfl⟩
 obtain ⟨A0, hA0⟩ : ∃ x : Int, x = (if validB m2 then al else 0) := ⟨_, rfl⟩
 obtain ⟨A1, hA1⟩ : ∃ x : Int, x = (if validB m2 then sp else 0) := ⟨_, rfl⟩
 obtain ⟨A2, hA2⟩ : ∃ x : Int, x = (if validB m2 then bi else 0) := ⟨_, rfl⟩
 rw [← hL, ← hA0, ← hA1, ← hA2]
 have hdr : (m.ev == 0 || (m.ev == 3 || (seeksB m2 && !seeksB mode))) = true → L = [] := fun h => hL.trans (if_pos h)
 have hdn : (m.ev == 0 || (m.ev == 3 || (seeksB m2 && !seeksB mode))) = false → L = m.l := fun h => hL.trans (if_neg (by rw [h]; decide))
 have HA := am (And.intro hA0 (And.intro hA1 hA2))
 clear hL hA0 hA1 hA2
 have hw0 := h.hb.size
 have HON := am hon
 have H30 := am h0
 have H31 := am h1
 have H32 := am h2
 have HG := am hG
 have HM := am hm
 have HIN := am hin
 have HBR := am hbr
 have HDR := am hdr
 have HDN := am hdn
 have HLE := am hl
 clear hck hth hrn hhd hlo hon h0 h1 h2 hG hm hin hbr hdr hdn hl
 go_enter Tryz.func10, Tryz.ntmps10
 go_upto_region 2 with fail
 obtain ⟨x3, x4, x5, hB⟩ := blocks3 w #[a, .bool has, p, .bool sh] #[(), .bool false, .bool false, .bool false, .bool false, .bool false, (), (), ()] #[(), .bool false, .bool false, .bool false, .bool false, .bool false, (), (), ()] 37 39 39
 have H := am (h.below hB)
 have HK := am (Kept.of_below hB (fun k => k = g ∨ k = f ∨ k = gr ∨ v.ownBlock = some k))
 obtain ⟨b3, h3⟩ := e_x (w.heap.size)
 obtain ⟨b4, h4⟩ := e_x (w.heap.size + 1)
 obtain ⟨b5, h5⟩ := e_x (w.heap.size + 1 + 1)
 have n3_5 : b3 ≠ b5 := by omega
 have n4_5 : b4 ≠ b5 := by omega
 have n5_4 : b5 ≠ b4 := by omega
 have l3 : w.heap.size ≤ b3 := by omega
 have l4 : w.heap.size ≤ b4 := by omega
 have l5 : w.heap.size ≤ b5 := by omega
 rw [show w.heap.size + 2 = w.heap.size + 1 + 1 from rfl, ← h5, ← h4, ← h3]
 rw [← h5] at x5
 rw [← h4] at x4
 rw [← h3] at x3
 have H3 := am x3
 have H4 := am x4
 have H5 := am x5
 clear x3 x4 x5 hB h3 h4 h5 h
 generalize ((w.alloc (.cells #[a, .bool has, p, .bool sh] 37)).alloc (.cells #[(), .bool false, .bool false, .bool false, .bool false, .bool false, (), (), ()] 39)).alloc (.cells #[(), .bool false, .bool false, .bool false, .bool false, .bool false, (), (), ()] 39) = W0 at H H3 H4 H5 HK ⊢
 refine s_t 14 (fun w' => w'.heap[g]? = some (.cells (chanV s c f gr v mode since) 56 (0, 0)) ∧ w'.heap[b3]? = some (.cells #[a, .bool has, p, .bool sh] 37 (0, 0))) ⟨H.out.hg, H3.out⟩ (fun hHeld => ?_)
 replace H := am (H.out.drewN 1)
 replace HK := am (HK.out.drew)
 replace H3 := b_d H3
 replace H4 := b_d H4
 replace H5 := b_d H5
 change Aside0 (Chan w0 W0.drew _ _ _ _ _ _ _ _ _ _ _ _ _ _ _ _) at H
 generalize W0.drew = Wd at H HK H3 H4 H5 hHeld ⊢
 refine p_u 0 14 14 1 ?_
 refine p_u 1 15 14 3 ?_
 refine p_u 2 16 14 7 ?_
 refine t_a 3 17 14 15 hHeld ?_ (hv := by rintro w' ⟨s0, s1⟩; have x := bcv s0 40 (.pointer (some ⟨f, 0, none⟩)) rfl; go_simp; with_reducible rfl)
 refine p_u 4 18 14 31 ?_
 refine t_a 5 19 14 63 hHeld ?_ (hv := by rintro w' ⟨s0, s1⟩; have x := bcv s1 0 (.int .i64 a) rfl; go_simp; with_reducible rfl)
 refine o_n 6 20 14 127 fun K hK => ?_
 refine g_s Tryz.func22 #[.pointer (some ⟨f, 0, none⟩), a] ?_
 refine (HIN.out Wd H.out.hf H.out.f0 H.out.hb).mono ?_
 rintro e W1 ⟨rfl, hF, hB, hk⟩
 replace H3 := am (hk.blk H3.out (blk_ne H3.out H.out.hf (by decide)) (by simp))
 replace H4 := am (hk.blk H4.out (blk_ne H4.out H.out.hf (by decide)) (by simp))
 replace H5 := am (hk.blk H5.out (blk_ne H5.out H.out.hf (by decide)) (by simp))
 replace HK := am (HK.out.of_keep hk (.inl (.inr (.inl rfl))))
 replace H := am (H.out.fed hF hB hk)
 clear hF hB hk hHeld
 refine ⟨_, rfl, ?_⟩
 refine hK.out _ _ ⟨H.out.hg, H3.out⟩ (fun hHeld => ?_)
 clear hK K
 refine n_o 20 ?_
 refine p_u 7 13 14 255 ?_
 refine p_u 8 21 14 511 ?_
 refine p_u 9 22 14 1023 ?_
 refine p_u 10 23 14 2047 ?_
 refine p_u 11 6 14 4095 ?_
 refine p_u 12 7 14 8191 ?_
 refine p_u 13 8 14 16383 ?_
 refine d_n ?_
 have y3_0 := b_v H3 0 (.int .i64 a) rfl
 have y3_1 := b_v H3 1 (.bool has) rfl
 have y3_2 := b_v H3 2 (.int .i64 p) rfl
 have y3_3 := b_v H3 3 (.bool sh) rfl
 go_wp2_with fail
 refine (brings_c a p has sh cn ok W1 HBR.out).mono ?_
 rintro e W2 ⟨rfl, hb⟩
 replace H := am (H.out.below hb)
 replace HK := am (HK.out.below hb)
 replace H3 := b_b H3 hb
 replace H4 := b_b H4 hb
 replace H5 := b_b H5 hb
 clear hb y3_0 y3_1 y3_2 y3_3
 have y5_4 := b_v H5 4 (.bool false) rfl
 have f5_4 := b_z H5 4
 go_upto_region 5 with fail
 clear y5_4 f5_4
 have qs0 := blk_set H5.out 4 (.bool hd)
 have qa := qs0.trans (show _ = some (Obj.cells #[(), .bool false, .bool false, .bool false, .bool hd, .bool false, (), (), ()] 39 (0, 0)) by kernel_rfl)
 have qk := (Kept.refl W2 (fun k => k = b5)).setCell (p := ⟨b5, 4, none⟩) (.inl rfl) (.bool hd)
 have qb := H.out.hb.setCell (p := ⟨b5, 4, none⟩) (Nat.le_trans hw0 l5) (.bool hd)
 have qh := H.out.but H5.out (by decide) qk qb
 have qo3 := blk_kept H3.out qk (show b3 ≠ b5 from n3_5)
 have qo4 := blk_kept H4.out qk (show b4 ≠ b5 from n4_5)
 have qK := HK.out.then_ qk (fun k hk => .inr (by rw [hk]; exact l5))
 clear H HK H5 H3 H4 qs0 qk qb
 generalize W2.setCell ⟨b5, 4, none⟩ (.bool hd) = W3 at qa qh qK qo3 qo4 ⊢
 have H := am qh
 have HK := am qK
 have H5 := am qa
 have H3 := am qo3
 have H4 := am qo4
 clear qa qh qK qo3 qo4
 have yg_43 := bcv H.out.hg 43 (.int .i64 mode) rfl
 have yg_44 := bcv H.out.hg 44 (.int .i64 since) rfl
 go_wp2_with fail
 refine (seeks_c mode since W3).mono ?_
 rintro e W4 ⟨rfl, hb⟩
 replace H := am (H.out.below hb)
 replace HK := am (HK.out.below hb)
 replace H3 := b_b H3 hb
 replace H4 := b_b H4 hb
 replace H5 := b_b H5 hb
 clear hb yg_43 yg_44
 go_upto_region 12 with fail
 rename_i KA hKA KB hKB
 have HKA := am hKA
 clear hKA
 apply cutA_ (K := KA) (fun a W => ∃ (v2 : Value), a.tmps.size = 146 ∧ a.defers = [] ∧ a.tmps.getD 0 undef = .pointer (some ⟨g, 0, none⟩) ∧ a.tmps.getD 4 undef = .pointer (some ⟨b4, 0, none⟩) ∧ a.tmps.getD 5 undef = .pointer (some ⟨b5, 0, none⟩) ∧ a.tmps.getD 11 undef = .int .i64 m.ev ∧ a.tmps.getD 12 undef = .bool (seeksB mode) ∧ Aside0 (Chan w0 W g f gr m.s c v2 mode since th rn band noise rough m.count m.known m.l) ∧ Aside0 (Kept w W (fun k => k = g ∨ k = f ∨ k = gr ∨ v.ownBlock = some k)) ∧ Aside0 (OwT w v v2) ∧ Aside0 (W.heap[b4]? = some (.cells #[(), .bool false, .bool false, .bool false, .bool false, .bool false, (), (), ()] 39 (0, 0))) ∧ Aside0 (W.heap[b5]? = some (.cells #[(), .bool false, .bool m.ac, .bool m.re, .bool hd, .bool m.gr, (), (), ()] 39 (0, 0))))
 ·
  intro join
  have JN := am join
  clear join
  cases hlo : lo with
  | true =>
   obtain rfl := HM.out.fall hlo
   have HO := am (show OwT w v v from fun k hk => .inl hk)
   go_wp2_with fail
   refine JN.out _ _ ?_
   exact ⟨v, rfl, rfl, rfl, rfl, rfl, rfl, rfl, H, HK, HO, H4, H5⟩
  | false =>
   cases hsk : seeksB mode with
   | true =>
    cases hok : ok with
    | false =>
     obtain rfl := HM.out.none hlo hsk hok
     have HO := am (show OwT w v v from fun k hk => .inl hk)
     go_wp2_with fail
     refine JN.out _ _ ?_
     exact ⟨v, rfl, rfl, rfl, rfl, rfl, rfl, (congrArg Value.bool hsk.symm), H, HK, HO, H4, H5⟩
    | true =>
     by_cases h15 : l.length < 15
     ·
      obtain rfl := HM.out.more hlo hsk hok h15
      go_wp2_with fail
      refine (seek_more w0 W4 g f gr s c v mode since th rn band noise rough count known l cn H.out h15).mono ?_
      rintro e Wx ⟨v', rfl, hH, hk, ho⟩
      have k4 := blk_kept H4.out hk (fun hS => by rcases hS with e | e | e; exact blk_ne H4.out H.out.hg (by decide) e; exact (H.out.hi.ne_blk H4.out (by decide)) e.symm; exact (Kd.R_ne H.out.hr H4.out (by decide)) e.symm)
      have k5 := blk_kept H5.out hk (fun hS => by rcases hS with e | e | e; exact blk_ne H5.out H.out.hg (by decide) e; exact (H.out.hi.ne_blk H5.out (by decide)) e.symm; exact (Kd.R_ne H.out.hr H5.out (by decide)) e.symm)
      have HO := am (show OwT w v v' from fun k hk' => (ho k hk').imp id (fun q => Nat.le_trans HK.out.1 q))
      replace HK := am (HK.out.then_ hk (fun k hS => by rcases hS with e | e | e; exact .inl (.inl e); exact .inl (.inr (.inr (.inl e))); exact .inl (.inr (.inr (.inr e)))))
      replace H5 := am (k5)
      replace H4 := am (k4)
      replace H := am (hH)
      clear hk hH k4 k5 ho H3
      go_wp2_with fail
      refine JN.out _ _ ?_
      exact ⟨v', rfl, rfl, rfl, rfl, rfl, rfl, (congrArg Value.bool hsk.symm), H, HK, HO, H4, H5⟩
     obtain ⟨mn, em, hme, rfl⟩ := HM.out.last hlo hsk hok (by have := HLE.out; omega)
     go_wp2_with fail
     refine (seek_last w0 W4 g f gr s c v mode since th rn band noise rough count known l cn H.out (by have := HLE.out; omega) mn em hme (HG.out.tab)).mono ?_
     rintro e Wx ⟨v', rfl, hH, hk, ho⟩
     have k4 := blk_kept H4.out hk (fun hS => by rcases hS with e | e | e; exact blk_ne H4.out H.out.hg (by decide) e; exact (H.out.hi.ne_blk H4.out (by decide)) e.symm; exact (Kd.R_ne H.out.hr H4.out (by decide)) e.symm)
     have k5 := blk_kept H5.out hk (fun hS => by rcases hS with e | e | e; exact blk_ne H5.out H.out.hg (by decide) e; exact (H.out.hi.ne_blk H5.out (by decide)) e.symm; exact (Kd.R_ne H.out.hr H5.out (by decide)) e.symm)
     have HO := am (show OwT w v v' from fun k hk' => (ho k hk').imp id (fun q => Nat.le_trans HK.out.1 q))
     replace HK := am (HK.out.then_ hk (fun k hS => by rcases hS with e | e | e; exact .inl (.inl e); exact .inl (.inr (.inr (.inl e))); exact .inl (.inr (.inr (.inr e)))))
     replace H5 := am (k5)
     replace H4 := am (k4)
     replace H := am (hH)
     clear hk hH k4 k5 ho H3
     have y5_2 := b_v H5 2 (.bool false) rfl
     have f5_2 := b_z H5 2
     go_wp2_with fail
     clear y5_2 f5_2
     have qs0 := blk_set H5.out 2 (.bool true)
     have qa := qs0.trans (show _ = some (Obj.cells #[(), .bool false, .bool true, .bool false, .bool hd, .bool false, (), (), ()] 39 (0, 0)) by kernel_rfl)
     have qk := (Kept.refl Wx (fun k => k = b5)).setCell (p := ⟨b5, 2, none⟩) (.inl rfl) (.bool true)
     have qb := H.out.hb.setCell (p := ⟨b5, 2, none⟩) (Nat.le_trans hw0 l5) (.bool true)
     have qh := H.out.but H5.out (by decide) qk qb
     have qo4 := blk_kept H4.out qk (show b4 ≠ b5 from n4_5)
     have qK := HK.out.then_ qk (fun k hk => .inr (by rw [hk]; exact l5))
     clear H HK H5 H4 qs0 qk qb
     generalize Wx.setCell ⟨b5, 2, none⟩ (.bool true) = Wy at qa qh qK qo4 ⊢
     have H := am qh
     have HK := am qK
     have H5 := am qa
     have H4 := am qo4
     clear qa qh qK qo4
     refine JN.out _ _ ?_
     exact ⟨v', rfl, rfl, rfl, rfl, rfl, rfl, (congrArg Value.bool hsk.symm), H, HK, HO, H4, H5⟩
   | false =>
    obtain ⟨s1, hmv, hm0, hm1⟩ := HM.out.moved hlo hsk
    have HM0 := am hm0
    have HM1 := am hm1
    clear hm0 hm1
    go_wp2_with fail
    refine (hmv w0 W4 g f gr v mode since th rn band noise rough count known l HG.out H.out).mono ?_
    rintro e Wx ⟨rfl, hH, hk⟩
    have k3 := blk_kept H3.out hk (show ¬ _ = g from blk_ne H3.out H.out.hg (by decide))
    have k4 := blk_kept H4.out hk (show ¬ _ = g from blk_ne H4.out H.out.hg (by decide))
    have k5 := blk_kept H5.out hk (show ¬ _ = g from blk_ne H5.out H.out.hg (by decide))
    replace HK := am (HK.out.then_ hk (fun k hS => .inl (.inl hS)))
    replace H5 := am (k5)
    replace H4 := am (k4)
    replace H3 := am (k3)
    replace H := am (hH)
    clear hk hH k3 k4 k5
    cases hok : ok with
    | false =>
     obtain rfl := HM0.out hok
     have HO := am (show OwT w v v from fun k hk => .inl hk)
     have y5_2 := b_v H5 2 (.bool false) rfl
     go_wp2_with fail
     refine JN.out _ _ ?_
     exact ⟨v, rfl, rfl, rfl, rfl, rfl, rfl, (congrArg Value.bool hsk.symm), H, HK, HO, H4, H5⟩
    | true =>
     obtain ⟨tk, nr, s2', htk, rfl⟩ := HM1.out hok
     cases tk with
     | true =>
      have y3_3 := b_v H3 3 (.bool sh) rfl
      go_wp2_with fail
      refine (htk w0 Wx g f gr v mode since th rn l HG.out H.out).mono ?_
      rintro e Wy ⟨rfl, hH, hk⟩
      clear y3_3
      have k3 := blk_kept H3.out hk (show ¬ _ = g from blk_ne H3.out H.out.hg (by decide))
      have k4 := blk_kept H4.out hk (show ¬ _ = g from blk_ne H4.out H.out.hg (by decide))
      have k5 := blk_kept H5.out hk (show ¬ _ = g from blk_ne H5.out H.out.hg (by decide))
      replace HK := am (HK.out.then_ hk (fun k hS => .inl (.inl hS)))
      replace H5 := am (k5)
      replace H4 := am (k4)
      replace H3 := am (k3)
      replace H := am (hH)
      clear hk hH k3 k4 k5
      have y5_2 := b_v H5 2 (.bool false) rfl
      have f5_2 := b_z H5 2
      have y5_5 := b_v H5 5 (.bool false) rfl
      have f5_5 := b_z H5 5
      go_upto_region 9 with fail
      clear y5_2 f5_2 y5_5 f5_5
      have qs0 := blk_set H5.out 2 (.bool true)
      have qs1 := blk_set qs0 5 (.bool nr)
      have qa := qs1.trans (show _ = some (Obj.cells #[(), .bool false, .bool true, .bool false, .bool hd, .bool nr, (), (), ()] 39 (0, 0)) by kernel_rfl)
      have qk := ((Kept.refl Wy (fun k => k = b5)).setCell (p := ⟨b5, 2, none⟩) (.inl rfl) (.bool true)).setCell (p := ⟨b5, 5, none⟩) (.inl rfl) (.bool nr)
      have qb := (H.out.hb.setCell (p := ⟨b5, 2, none⟩) (Nat.le_trans hw0 l5) (.bool true)).setCell (p := ⟨b5, 5, none⟩) (Nat.le_trans hw0 l5) (.bool nr)
      have qh := H.out.but H5.out (by decide) qk qb
      have qo4 := blk_kept H4.out qk (show b4 ≠ b5 from n4_5)
      have qK := HK.out.then_ qk (fun k hk => .inr (by rw [hk]; exact l5))
      clear H HK H5 H4 qs0 qs1 qk qb
      generalize (Wy.setCell ⟨b5, 2, none⟩ (.bool true)).setCell ⟨b5, 5, none⟩ (.bool nr) = Wz at qa qh qK qo4 ⊢
      have H := am qh
      have HK := am qK
      have H5 := am qa
      have H4 := am qo4
      clear qa qh qK qo4
      have y5_2 := b_v H5 2 (.bool true) rfl
      have y5_3 := b_v H5 3 (.bool false) rfl
      have f5_3 := b_z H5 3
      go_upto_region 10 with fail
      clear y5_2 y5_3 f5_3
      have qs0 := blk_set H5.out 3 (.bool false)
      have qa := qs0.trans (show _ = some (Obj.cells #[(), .bool false, .bool true, .bool false, .bool hd, .bool nr, (), (), ()] 39 (0, 0)) by kernel_rfl)
      have qk := (Kept.refl Wz (fun k => k = b5)).setCell (p := ⟨b5, 3, none⟩) (.inl rfl) (.bool false)
      have qb := H.out.hb.setCell (p := ⟨b5, 3, none⟩) (Nat.le_trans hw0 l5) (.bool false)
      have qh := H.out.but H5.out (by decide) qk qb
      have qo4 := blk_kept H4.out qk (show b4 ≠ b5 from n4_5)
      have qK := HK.out.then_ qk (fun k hk => .inr (by rw [hk]; exact l5))
      clear H HK H5 H4 qs0 qk qb
      generalize Wz.setCell ⟨b5, 3, none⟩ (.bool false) = Wt at qa qh qK qo4 ⊢
      have H := am qh
      have HK := am qK
      have H5 := am qa
      have H4 := am qo4
      clear qa qh qK qo4
      have y5_2 := b_v H5 2 (.bool true) rfl
      have HO := am (show OwT w v v from fun k hk => .inl hk)
      go_wp2_with fail
      refine JN.out _ _ ?_
      exact ⟨v, rfl, rfl, rfl, rfl, rfl, rfl, (congrArg Value.bool hsk.symm), H, HK, HO, H4, H5⟩
     | false =>
      have y3_3 := b_v H3 3 (.bool sh) rfl
      go_wp2_with fail
      refine (htk w0 Wx g f gr v mode since th rn l HG.out H.out).mono ?_
      rintro e Wy ⟨rfl, hH, hk⟩
      clear y3_3
      have k3 := blk_kept H3.out hk (show ¬ _ = g from blk_ne H3.out H.out.hg (by decide))
      have k4 := blk_kept H4.out hk (show ¬ _ = g from blk_ne H4.out H.out.hg (by decide))
      have k5 := blk_kept H5.out hk (show ¬ _ = g from blk_ne H5.out H.out.hg (by decide))
      replace HK := am (HK.out.then_ hk (fun k hS => .inl (.inl hS)))
      replace H5 := am (k5)
      replace H4 := am (k4)
      replace H3 := am (k3)
      replace H := am (hH)
      clear hk hH k3 k4 k5
      have y5_2 := b_v H5 2 (.bool false) rfl
      have f5_2 := b_z H5 2
      have y5_5 := b_v H5 5 (.bool false) rfl
      have f5_5 := b_z H5 5
      go_upto_region 9 with fail
      clear y5_2 f5_2 y5_5 f5_5
      have qs0 := blk_set H5.out 2 (.bool false)
      have qs1 := blk_set qs0 5 (.bool nr)
      have qa := qs1.trans (show _ = some (Obj.cells #[(), .bool false, .bool false, .bool false, .bool hd, .bool nr, (), (), ()] 39 (0, 0)) by kernel_rfl)
      have qk := ((Kept.refl Wy (fun k => k = b5)).setCell (p := ⟨b5, 2, none⟩) (.inl rfl) (.bool false)).setCell (p := ⟨b5, 5, none⟩) (.inl rfl) (.bool nr)
      have qb := (H.out.hb.setCell (p := ⟨b5, 2, none⟩) (Nat.le_trans hw0 l5) (.bool false)).setCell (p := ⟨b5, 5, none⟩) (Nat.le_trans hw0 l5) (.bool nr)
      have qh := H.out.but H5.out (by decide) qk qb
      have qo4 := blk_kept H4.out qk (show b4 ≠ b5 from n4_5)
      have qK := HK.out.then_ qk (fun k hk => .inr (by rw [hk]; exact l5))
      clear H HK H5 H4 qs0 qs1 qk qb
      generalize (Wy.setCell ⟨b5, 2, none⟩ (.bool false)).setCell ⟨b5, 5, none⟩ (.bool nr) = Wz at qa qh qK qo4 ⊢
      have H := am qh
      have HK := am qK
      have H5 := am qa
      have H4 := am qo4
      clear qa qh qK qo4
      have y5_2 := b_v H5 2 (.bool false) rfl
      have y5_3 := b_v H5 3 (.bool false) rfl
      have f5_3 := b_z H5 3
      go_upto_region 10 with fail
      clear y5_2 y5_3 f5_3
      have qs0 := blk_set H5.out 3 (.bool true)
      have qa := qs0.trans (show _ = some (Obj.cells #[(), .bool false, .bool false, .bool true, .bool hd, .bool nr, (), (), ()] 39 (0, 0)) by kernel_rfl)
      have qk := (Kept.refl Wz (fun k => k = b5)).setCell (p := ⟨b5, 3, none⟩) (.inl rfl) (.bool true)
      have qb := H.out.hb.setCell (p := ⟨b5, 3, none⟩) (Nat.le_trans hw0 l5) (.bool true)
      have qh := H.out.but H5.out (by decide) qk qb
      have qo4 := blk_kept H4.out qk (show b4 ≠ b5 from n4_5)
      have qK := HK.out.then_ qk (fun k hk => .inr (by rw [hk]; exact l5))
      clear H HK H5 H4 qs0 qk qb
      generalize Wz.setCell ⟨b5, 3, none⟩ (.bool true) = Wt at qa qh qK qo4 ⊢
      have H := am qh
      have HK := am qK
      have H5 := am qa
      have H4 := am qo4
      clear qa qh qK qo4
      have y5_2 := b_v H5 2 (.bool false) rfl
      have HO := am (show OwT w v v from fun k hk => .inl hk)
      go_wp2_with fail
      refine JN.out _ _ ?_
      exact ⟨v, rfl, rfl, rfl, rfl, rfl, rfl, (congrArg Value.bool hsk.symm), H, HK, HO, H4, H5⟩
 clear H HK H3 H4 H5
 rintro a V0 ⟨v2, hsz, hd, e0, e4, e5, e11, e12, H, HK, HO, H4, H5⟩
 obtain ⟨T, ds⟩ := a
 obtain rfl : ds = [] := hd
 obtain ⟨S, rfl⟩ := slit17 T _ _ _ _ _ hsz e0 e4 e5 e11 e12
 clear hsz e0 e4 e5 e11 e12
 refine HKA.out _ _ ?_
 clear HKA
 go_upto_region 17 with fail
 refine s_t 20 (fun w' => w'.cell? ⟨g, 37, none⟩ = some (.int .i64 c.coast) ∧ w'.cell? ⟨g, 38, none⟩ = some (.int .i64 c.out)) ⟨(blk_cell H.out.hg 37).trans rfl, (blk_cell H.out.hg 38).trans rfl⟩ (fun hHeld => ?_)
 replace H := am (H.out.drewN 1)
 replace HK := am (HK.out.drew)
 replace H4 := b_d H4
 replace H5 := b_d H5
 change Aside0 (Chan w0 V0.drew _ _ _ _ _ _ _ _ _ _ _ _ _ _ _ _) at H
 generalize V0.drew = Wd at H HK H4 H5 hHeld ⊢
 refine p_u 0 68 20 1 ?_
 refine p_u 1 69 20 3 ?_
 refine p_u 2 70 20 7 ?_
 refine p_u 3 71 20 15 ?_
 refine p_u 5 73 20 47 ?_
 refine p_u 6 74 20 111 ?_
 refine p_u 7 75 20 239 ?_
 refine p_u 8 76 20 495 ?_
 refine p_u 9 77 20 1007 ?_
 refine t_a 10 78 20 2031 hHeld ?_
 refine p_u 11 79 20 4079 ?_
 refine p_u 12 80 20 8175 ?_
 refine p_u 13 81 20 16367 ?_
 refine p_u 14 82 20 32751 ?_
 refine t_a 15 83 20 65519 hHeld ?_
 have yg_43 := bcv H.out.hg 43 (.int .i64 mode) rfl
 have yg_44 := bcv H.out.hg 44 (.int .i64 since) rfl
 refine o_n 4 72 20 65535 fun K hK => ?_
 refine event_step (v := .agg #[mode, since]) (w1 := Wd) (by rfl) (by first | (go_simp; done) | (go_simp; rfl)) ?_
 clear hHeld yg_43 yg_44
 refine hK.out _ _ ⟨(blk_cell H.out.hg 37).trans rfl, (blk_cell H.out.hg 38).trans rfl⟩ (fun hHeld => ?_)
 clear hK K
 refine n_o 72 ?_
 refine o_n 16 84 20 131071 fun K hK => ?_
 refine g_s Tryz.func28 #[.agg #[mode, since], .int .i64 m.ev, .int .i64 c.coast, .int .i64 c.out] ?_
 refine (on_c mode since m.ev c.coast c.out m2 s2 Wd HON.out).mono ?_
 rintro e We ⟨rfl, hb⟩
 replace H := am (H.out.below hb)
 replace HK := am (HK.out.below hb)
 replace H4 := b_b H4 hb
 replace H5 := b_b H5 hb
 clear hb hHeld
 refine ⟨_, rfl, ?_⟩
 refine hK.out _ _ ⟨(blk_cell H.out.hg 37).trans rfl, (blk_cell H.out.hg 38).trans rfl⟩ (fun hHeld => ?_)
 clear hK K
 refine n_o 84 ?_
 refine p_u 17 85 20 262143 ?_
 refine p_u 18 86 20 524287 ?_
 have yg_43 := bcv H.out.hg 43 (.int .i64 mode) rfl
 have fg_43 := bfz H.out.hg 43
 have yg_44 := bcv H.out.hg 44 (.int .i64 since) rfl
 have fg_44 := bfz H.out.hg 44
 refine o_0 19 20 1048575 fun K hK => ?_
 refine s_k ((We.setCell ⟨g, 43, none⟩ (.int .i64 m2)).setCell ⟨g, 44, none⟩ (.int .i64 s2)) ?_
 have n5 := blk_ne H5.out H.out.hg (by decide)
 have n4 := blk_ne H4.out H.out.hg (by decide)
 have q := (H.out.set 43 (.int .i64 m2) (s' := m.s) (mode' := m2) (since' := since) (by kernel_rfl)).set 44 (.int .i64 s2) (s' := m.s) (mode' := m2) (since' := s2) (by kernel_rfl)
 replace H4 := am (blk_far (blk_far H4.out (p := ⟨g, 43, none⟩) n4 (.int .i64 m2)) (p := ⟨g, 44, none⟩) n4 (.int .i64 s2))
 replace H5 := am (blk_far (blk_far H5.out (p := ⟨g, 43, none⟩) n5 (.int .i64 m2)) (p := ⟨g, 44, none⟩) n5 (.int .i64 s2))
 replace HK := am ((HK.out.setCell (p := ⟨g, 43, none⟩) (.inl (.inl rfl)) (.int .i64 m2)).setCell (p := ⟨g, 44, none⟩) (.inl (.inl rfl)) (.int .i64 s2))
 replace H := am (q)
 clear q hHeld yg_43 yg_44 fg_43 fg_44 n4 n5
 generalize (We.setCell ⟨g, 43, none⟩ (.int .i64 m2)).setCell ⟨g, 44, none⟩ (.int .i64 s2) = Wf at H HK H4 H5 ⊢
 refine hK.out _ _ ⟨(blk_cell H.out.hg 37).trans rfl, (blk_cell H.out.hg 38).trans rfl⟩ (fun hHeld => ?_)
 clear hK K
 refine d_n ?_
 go_upto_region 18 with fail
 rename_i KA hKA KB hKB
 have HKA := am hKA
 clear hKA
 apply cutA_ (K := KA) (fun a W => ∃ (v3 : Value), a.tmps.size = 146 ∧ a.defers = [] ∧ a.tmps.getD 0 undef = .pointer (some ⟨g, 0, none⟩) ∧ a.tmps.getD 4 undef = .pointer (some ⟨b4, 0, none⟩) ∧ a.tmps.getD 5 undef = .pointer (some ⟨b5, 0, none⟩) ∧ Aside0 (Chan w0 W g f gr m.s c v3 m2 s2 th rn band noise rough m.count m.known L) ∧ Aside0 (Kept w W (fun k => k = g ∨ k = f ∨ k = gr ∨ v.ownBlock = some k)) ∧ Aside0 (OwT w v v3) ∧ Aside0 (W.heap[b4]? = some (.cells #[(), .bool false, .bool false, .bool false, .bool false, .bool false, (), (), ()] 39 (0, 0))) ∧ Aside0 (W.heap[b5]? = some (.cells #[(), .bool false, .bool m.ac, .bool m.re, .bool hd, .bool m.gr, (), (), ()] 39 (0, 0))))
 ·
  intro join
  have JN := am join
  clear join
  by_cases e0 : m.ev = 0
  ·
   skip
   have qa0 : (m.ev == 0) = true := by simp [e0]
   have qb0 : decide (m.ev = 0) = true := by simp [e0]
   have yg_41 := (blk_cell H.out.hg 41).trans (show _ = some v2 from rfl)
   have fg_41 := bfz H.out.hg 41
   go_wp2_with fail
   have hL := HDR.out (by simp [e0])
   have q := H.out.drop
   rw [← hL] at q
   have n5 := blk_ne H5.out H.out.hg (by decide)
   have n4 := blk_ne H4.out H.out.hg (by decide)
   replace H4 := am (blk_far H4.out (p := ⟨g, 41, none⟩) n4 (.slice none 0 0))
   replace H5 := am (blk_far H5.out (p := ⟨g, 41, none⟩) n5 (.slice none 0 0))
   replace HK := am (HK.out.setCell (p := ⟨g, 41, none⟩) (.inl (.inl rfl)) (.slice none 0 0))
   replace H := am (q)
   replace HO := am (show OwT w v (.slice none 0 0) from fun k hk => by simp [Value.ownBlock] at hk)
   clear q yg_41 fg_41 n4 n5
   generalize Wf.setCell ⟨g, 41, none⟩ (.slice none 0 0) = Wi at H HK H4 H5 ⊢
   refine JN.out _ _ ?_
   exact ⟨(.slice none 0 0), rfl, rfl, rfl, rfl, rfl, H, HK, HO, H4, H5⟩
  by_cases e3 : m.ev = 3
  ·
   skip
   have qa0 : (m.ev == 0) = false := by simp [e0]
   have qb0 : decide (m.ev = 0) = false := by simp [e0]
   have qa3 : (m.ev == 3) = true := by simp [e3]
   have qb3 : decide (m.ev = 3) = true := by simp [e3]
   have yg_41 := (blk_cell H.out.hg 41).trans (show _ = some v2 from rfl)
   have fg_41 := bfz H.out.hg 41
   go_wp2_with fail
   have hL := HDR.out (by simp [e0, e3])
   have q := H.out.drop
   rw [← hL] at q
   have n5 := blk_ne H5.out H.out.hg (by decide)
   have n4 := blk_ne H4.out H.out.hg (by decide)
   replace H4 := am (blk_far H4.out (p := ⟨g, 41, none⟩) n4 (.slice none 0 0))
   replace H5 := am (blk_far H5.out (p := ⟨g, 41, none⟩) n5 (.slice none 0 0))
   replace HK := am (HK.out.setCell (p := ⟨g, 41, none⟩) (.inl (.inl rfl)) (.slice none 0 0))
   replace H := am (q)
   replace HO := am (show OwT w v (.slice none 0 0) from fun k hk => by simp [Value.ownBlock] at hk)
   clear q yg_41 fg_41 n4 n5
   generalize Wf.setCell ⟨g, 41, none⟩ (.slice none 0 0) = Wi at H HK H4 H5 ⊢
   refine JN.out _ _ ?_
   exact ⟨(.slice none 0 0), rfl, rfl, rfl, rfl, rfl, H, HK, HO, H4, H5⟩
  skip
  have qa0 : (m.ev == 0) = false := by simp [e0]
  have qb0 : decide (m.ev = 0) = false := by simp [e0]
  have qa3 : (m.ev == 3) = false := by simp [e3]
  have qb3 : decide (m.ev = 3) = false := by simp [e3]
  have yg_43 := bcv H.out.hg 43 (.int .i64 m2) rfl
  have yg_44 := bcv H.out.hg 44 (.int .i64 s2) rfl
  go_wp2_with fail
  refine (seeks_c m2 s2 Wf).mono ?_
  rintro e Wh ⟨rfl, hb⟩
  replace H := am (H.out.below hb)
  replace HK := am (HK.out.below hb)
  replace H4 := b_b H4 hb
  replace H5 := b_b H5 hb
  clear hb yg_43 yg_44
  cases hs2 : seeksB m2 with
  | false =>
   go_wp2_with fail
   have hL := HDN.out (by simp [e0, e3, hs2])
   rw [← hL] at H
   refine JN.out _ _ ?_
   exact ⟨v2, rfl, rfl, rfl, rfl, rfl, H, HK, HO, H4, H5⟩
  | true =>
   cases hsk : seeksB mode with
   | true =>
    go_wp2_with fail
    have hL := HDN.out (by simp [e0, e3, hs2, hsk])
    rw [← hL] at H
    refine JN.out _ _ ?_
    exact ⟨v2, rfl, rfl, rfl, rfl, rfl, H, HK, HO, H4, H5⟩
   | false =>
    have yg_41 := (blk_cell H.out.hg 41).trans (show _ = some v2 from rfl)
    have fg_41 := bfz H.out.hg 41
    go_wp2_with fail
    have hL := HDR.out (by simp [e0, e3, hs2, hsk])
    have q := H.out.drop
    rw [← hL] at q
    have n5 := blk_ne H5.out H.out.hg (by decide)
    have n4 := blk_ne H4.out H.out.hg (by decide)
    replace H4 := am (blk_far H4.out (p := ⟨g, 41, none⟩) n4 (.slice none 0 0))
    replace H5 := am (blk_far H5.out (p := ⟨g, 41, none⟩) n5 (.slice none 0 0))
    replace HK := am (HK.out.setCell (p := ⟨g, 41, none⟩) (.inl (.inl rfl)) (.slice none 0 0))
    replace H := am (q)
    replace HO := am (show OwT w v (.slice none 0 0) from fun k hk => by simp [Value.ownBlock] at hk)
    clear q yg_41 fg_41 n4 n5
    generalize Wh.setCell ⟨g, 41, none⟩ (.slice none 0 0) = Wi at H HK H4 H5 ⊢
    refine JN.out _ _ ?_
    exact ⟨(.slice none 0 0), rfl, rfl, rfl, rfl, rfl, H, HK, HO, H4, H5⟩
 clear H HK HO H4 H5
 rintro a V1 ⟨v3, hsz, hd, e0, e4, e5, H, HK, HO, H4, H5⟩
 obtain ⟨T, ds⟩ := a
 obtain rfl : ds = [] := hd
 obtain ⟨S, rfl⟩ := slit20 T _ _ _ hsz e0 e4 e5
 clear hsz e0 e4 e5
 refine HKA.out _ _ ?_
 clear HKA
 go_upto_region 20 with fail
 refine s_t 14 (fun w' => w'.heap[g]? = some (.cells (chanV m.s c f gr v3 m2 s2) 56 (0, 0))) H.out.hg (fun hHeld => ?_)
 replace H := am (H.out.drewN 1)
 replace HK := am (HK.out.drew)
 replace H4 := b_d H4
 replace H5 := b_d H5
 change Aside0 (Chan w0 V1.drew _ _ _ _ _ _ _ _ _ _ _ _ _ _ _ _) at H
 generalize V1.drew = Wj at H HK H4 H5 hHeld ⊢
 refine p_u 0 107 14 1 ?_
 refine p_u 1 108 14 3 ?_
 refine p_u 2 109 14 7 ?_
 refine p_u 3 110 14 15 ?_
 refine t_a 4 111 14 31 hHeld ?_ (hv := by rintro w' s0; have x := bcv s0 43 (.int .i64 m2) rfl; go_simp; with_reducible rfl)
 refine p_u 5 112 14 63 ?_
 refine p_u 6 113 14 127 ?_
 refine p_u 7 114 14 255 ?_
 refine t_a 8 115 14 511 hHeld ?_ (hv := by rintro w' s0; have x := bcv s0 43 (.int .i64 m2) rfl; have x2 := bcv s0 44 (.int .i64 s2) rfl; go_simp; with_reducible rfl)
 refine p_u 10 117 14 1535 ?_
 refine o_n 9 116 14 2047 fun K hK => ?_
 refine g_s Tryz.func29 #[.agg #[m2, s2]] ?_
 refine (valid_c m2 s2 Wj).mono ?_
 rintro e Wk ⟨rfl, hb⟩
 replace H := am (H.out.below hb)
 replace HK := am (HK.out.below hb)
 replace H4 := b_b H4 hb
 replace H5 := b_b H5 hb
 clear hb hHeld
 refine ⟨_, rfl, ?_⟩
 refine hK.out _ _ H.out.hg (fun hHeld => ?_)
 clear hK K
 refine n_o 116 ?_
 have y5_0 := b_v H5 0 (.int .i64 0) rfl
 have f5_0 := b_z H5 0
 refine o_0 11 14 4095 fun K hK => ?_
 refine s_k (Wk.setCell ⟨b5, 0, none⟩ (.int .i64 m2)) ?_
 clear hHeld y5_0 f5_0
 have qs0 := blk_set H5.out 0 (.int .i64 m2)
 have qa := qs0.trans (show _ = some (Obj.cells #[m2, .bool false, .bool m.ac, .bool m.re, .bool hd, .bool m.gr, (), (), ()] 39 (0, 0)) by kernel_rfl)
 have qk := (Kept.refl Wk (fun k => k = b5)).setCell (p := ⟨b5, 0, none⟩) (.inl rfl) (.int .i64 m2)
 have qb := H.out.hb.setCell (p := ⟨b5, 0, none⟩) (Nat.le_trans hw0 l5) (.int .i64 m2)
 have qh := H.out.but H5.out (by decide) qk qb
 have qo4 := blk_kept H4.out qk (show b4 ≠ b5 from n4_5)
 have qK := HK.out.then_ qk (fun k hk => .inr (by rw [hk]; exact l5))
 clear H HK H5 H4 qs0 qk qb
 generalize Wk.setCell ⟨b5, 0, none⟩ (.int .i64 m2) = Wl at qa qh qK qo4 ⊢
 have H := am qh
 have HK := am qK
 have H5 := am qa
 have H4 := am qo4
 clear qa qh qK qo4
 refine hK.out _ _ H.out.hg (fun hHeld => ?_)
 clear hK K
 refine p_u 12 118 14 8191 ?_
 have y5_1 := b_v H5 1 (.bool false) rfl
 have f5_1 := b_z H5 1
 refine o_0 13 14 16383 fun K hK => ?_
 refine s_k (Wl.setCell ⟨b5, 1, none⟩ (.bool (validB m2))) ?_
 clear hHeld y5_1 f5_1
 have qs0 := blk_set H5.out 1 (.bool (validB m2))
 have qa := qs0.trans (show _ = some (Obj.cells #[m2, .bool (validB m2), .bool m.ac, .bool m.re, .bool hd, .bool m.gr, (), (), ()] 39 (0, 0)) by kernel_rfl)
 have qk := (Kept.refl Wl (fun k => k = b5)).setCell (p := ⟨b5, 1, none⟩) (.inl rfl) (.bool (validB m2))
 have qb := H.out.hb.setCell (p := ⟨b5, 1, none⟩) (Nat.le_trans hw0 l5) (.bool (validB m2))
 have qh := H.out.but H5.out (by decide) qk qb
 have qo4 := blk_kept H4.out qk (show b4 ≠ b5 from n4_5)
 have qK := HK.out.then_ qk (fun k hk => .inr (by rw [hk]; exact l5))
 clear H HK H5 H4 qs0 qk qb
 generalize Wl.setCell ⟨b5, 1, none⟩ (.bool (validB m2)) = Wm at qa qh qK qo4 ⊢
 have H := am qh
 have HK := am qK
 have H5 := am qa
 have H4 := am qo4
 clear qa qh qK qo4
 refine hK.out _ _ H.out.hg (fun hHeld => ?_)
 clear hK K
 refine d_n ?_
 go_upto_region 21 with fail
 rename_i KA hKA KB hKB
 have HKA := am hKA
 clear hKA
 apply cutA_ (K := KA) (fun a W => a.tmps.size = 146 ∧ a.defers = [] ∧ a.tmps.getD 4 undef = .pointer (some ⟨b4, 0, none⟩) ∧ a.tmps.getD 5 undef = .pointer (some ⟨b5, 0, none⟩) ∧ Aside0 (Chan w0 W g f gr m.s c v3 m2 s2 th rn band noise rough m.count m.known L) ∧ Aside0 (Kept w W (fun k => k = g ∨ k = f ∨ k = gr ∨ v.ownBlock = some k)) ∧ Aside0 (OwT w v v3) ∧ Aside0 (W.heap[b4]? = some (.cells #[(), .bool false, .bool false, .bool false, .bool false, .bool false, (), (), ()] 39 (0, 0))) ∧ Aside0 (W.heap[b5]? = some (.cells #[m2, .bool (validB m2), .bool m.ac, .bool m.re, .bool hd, .bool m.gr, A0, A1, A2] 39 (0, 0))))
 ·
  intro join
  have JN := am join
  clear join
  have y5_1 := b_v H5 1 (.bool (validB m2)) rfl
  cases hva : validB m2 with
  | true =>
   go_upto_region 22 with fail
   clear y5_1
   refine s_t 27 (fun w' => w'.heap[g]? = some (.cells (chanV m.s c f gr v3 m2 s2) 56 (0, 0))) H.out.hg (fun hHeld => ?_)
   replace H := am (H.out.drewN 1)
   replace HK := am (HK.out.drew)
   replace H4 := b_d H4
   replace H5 := b_d H5
   change Aside0 (Chan w0 Wm.drew _ _ _ _ _ _ _ _ _ _ _ _ _ _ _ _) at H
   generalize Wm.drew = Wn at H HK H4 H5 hHeld ⊢
   refine p_u 0 121 27 1 ?_
   refine p_u 1 122 27 3 ?_
   refine p_u 2 123 27 7 ?_
   refine p_u 3 124 27 15 ?_
   refine p_u 4 125 27 31 ?_
   refine t_a 5 126 27 63 hHeld ?_ (hv := by rintro w' s0; have x := bcv s0 0 (.int .i64 m.s.x0) rfl; go_simp; with_reducible rfl)
   refine p_u 7 128 27 191 ?_
   refine p_u 8 129 27 447 ?_
   refine p_u 9 130 27 959 ?_
   refine p_u 10 131 27 1983 ?_
   refine p_u 11 132 27 4031 ?_
   refine t_a 12 133 27 8127 hHeld ?_ (hv := by rintro w' s0; have x := bcv s0 1 (.int .i64 m.s.x1) rfl; go_simp; with_reducible rfl)
   refine p_u 14 135 27 24511 ?_
   refine p_u 15 136 27 57279 ?_
   refine p_u 16 137 27 122815 ?_
   refine p_u 17 138 27 253887 ?_
   refine p_u 18 139 27 516031 ?_
   refine t_a 19 140 27 1040319 hHeld ?_ (hv := by rintro w' s0; have x := bcv s0 2 (.int .i64 m.s.x2) rfl; go_simp; with_reducible rfl)
   refine o_n 6 127 27 1040383 fun K hK => ?_
   refine g_s Tryz.func30 #[m.s.x0] ?_
   refine (H30.out Wn (HG.out.below H.out.hb)).mono ?_
   rintro e Wo ⟨rfl, hb⟩
   replace H := am (H.out.below hb)
   replace HK := am (HK.out.below hb)
   replace H4 := b_b H4 hb
   replace H5 := b_b H5 hb
   clear hb hHeld
   refine ⟨_, rfl, ?_⟩
   refine hK.out _ _ H.out.hg (fun hHeld => ?_)
   clear hK K
   refine n_o 127 ?_
   refine p_u 21 142 27 3137535 ?_
   refine o_n 13 134 27 3145727 fun K hK => ?_
   refine g_s Tryz.func30 #[m.s.x1] ?_
   refine (H31.out Wo (HG.out.below H.out.hb)).mono ?_
   rintro e Wp ⟨rfl, hb⟩
   replace H := am (H.out.below hb)
   replace HK := am (HK.out.below hb)
   replace H4 := b_b H4 hb
   replace H5 := b_b H5 hb
   clear hb hHeld
   refine ⟨_, rfl, ?_⟩
   refine hK.out _ _ H.out.hg (fun hHeld => ?_)
   clear hK K
   refine n_o 134 ?_
   refine o_n 20 141 27 4194303 fun K hK => ?_
   refine g_s Tryz.func30 #[m.s.x2] ?_
   refine (H32.out Wp (HG.out.below H.out.hb)).mono ?_
   rintro e Wq ⟨rfl, hb⟩
   replace H := am (H.out.below hb)
   replace HK := am (HK.out.below hb)
   replace H4 := b_b H4 hb
   replace H5 := b_b H5 hb
   clear hb hHeld
   refine ⟨_, rfl, ?_⟩
   refine hK.out _ _ H.out.hg (fun hHeld => ?_)
   clear hK K
   refine n_o 141 ?_
   have y5_6 := b_v H5 6 (.int .i64 0) rfl
   have f5_6 := b_z H5 6
   refine o_0 22 27 8388607 fun K hK => ?_
   refine s_k (Wq.setCell ⟨b5, 6, none⟩ (.int .i64 al)) ?_
   clear hHeld y5_6 f5_6
   have qs0 := blk_set H5.out 6 (.int .i64 al)
   have qa := qs0.trans (show _ = some (Obj.cells #[m2, .bool (validB m2), .bool m.ac, .bool m.re, .bool hd, .bool m.gr, al, (), ()] 39 (0, 0)) by kernel_rfl)
   have qk := (Kept.refl Wq (fun k => k = b5)).setCell (p := ⟨b5, 6, none⟩) (.inl rfl) (.int .i64 al)
   have qb := H.out.hb.setCell (p := ⟨b5, 6, none⟩) (Nat.le_trans hw0 l5) (.int .i64 al)
   have qh := H.out.but H5.out (by decide) qk qb
   have qo4 := blk_kept H4.out qk (show b4 ≠ b5 from n4_5)
   have qK := HK.out.then_ qk (fun k hk => .inr (by rw [hk]; exact l5))
   clear H HK H5 H4 qs0 qk qb
   generalize Wq.setCell ⟨b5, 6, none⟩ (.int .i64 al) = Wr0 at qa qh qK qo4 ⊢
   have H := am qh
   have HK := am qK
   have H5 := am qa
   have H4 := am qo4
   clear qa qh qK qo4
   refine hK.out _ _ H.out.hg (fun hHeld => ?_)
   clear hK K
   refine p_u 23 143 27 16777215 ?_
   have y5_7 := b_v H5 7 (.int .i64 0) rfl
   have f5_7 := b_z H5 7
   refine o_0 24 27 33554431 fun K hK => ?_
   refine s_k (Wr0.setCell ⟨b5, 7, none⟩ (.int .i64 sp)) ?_
   clear hHeld y5_7 f5_7
   have qs0 := blk_set H5.out 7 (.int .i64 sp)
   have qa := qs0.trans (show _ = some (Obj.cells #[m2, .bool (validB m2), .bool m.ac, .bool m.re, .bool hd, .bool m.gr, al, sp, ()] 39 (0, 0)) by kernel_rfl)
   have qk := (Kept.refl Wr0 (fun k => k = b5)).setCell (p := ⟨b5, 7, none⟩) (.inl rfl) (.int .i64 sp)
   have qb := H.out.hb.setCell (p := ⟨b5, 7, none⟩) (Nat.le_trans hw0 l5) (.int .i64 sp)
   have qh := H.out.but H5.out (by decide) qk qb
   have qo4 := blk_kept H4.out qk (show b4 ≠ b5 from n4_5)
   have qK := HK.out.then_ qk (fun k hk => .inr (by rw [hk]; exact l5))
   clear H HK H5 H4 qs0 qk qb
   generalize Wr0.setCell ⟨b5, 7, none⟩ (.int .i64 sp) = Wr1 at qa qh qK qo4 ⊢
   have H := am qh
   have HK := am qK
   have H5 := am qa
   have H4 := am qo4
   clear qa qh qK qo4
   refine hK.out _ _ H.out.hg (fun hHeld => ?_)
   clear hK K
   refine p_u 25 144 27 67108863 ?_
   have y5_8 := b_v H5 8 (.int .i64 0) rfl
   have f5_8 := b_z H5 8
   refine o_0 26 27 134217727 fun K hK => ?_
   refine s_k (Wr1.setCell ⟨b5, 8, none⟩ (.int .i64 bi)) ?_
   clear hHeld y5_8 f5_8
   have qs0 := blk_set H5.out 8 (.int .i64 bi)
   have qa := qs0.trans (show _ = some (Obj.cells #[m2, .bool (validB m2), .bool m.ac, .bool m.re, .bool hd, .bool m.gr, al, sp, bi] 39 (0, 0)) by kernel_rfl)
   have qk := (Kept.refl Wr1 (fun k => k = b5)).setCell (p := ⟨b5, 8, none⟩) (.inl rfl) (.int .i64 bi)
   have qb := H.out.hb.setCell (p := ⟨b5, 8, none⟩) (Nat.le_trans hw0 l5) (.int .i64 bi)
   have qh := H.out.but H5.out (by decide) qk qb
   have qo4 := blk_kept H4.out qk (show b4 ≠ b5 from n4_5)
   have qK := HK.out.then_ qk (fun k hk => .inr (by rw [hk]; exact l5))
   clear H HK H5 H4 qs0 qk qb
   generalize Wr1.setCell ⟨b5, 8, none⟩ (.int .i64 bi) = Wr2 at qa qh qK qo4 ⊢
   have H := am qh
   have HK := am qK
   have H5 := am qa
   have H4 := am qo4
   clear qa qh qK qo4
   refine hK.out _ _ H.out.hg (fun hHeld => ?_)
   clear hK K
   refine d_n ?_
   have ea0 : A0 = al := HA.out.1.trans (if_pos hva)
   have ea1 : A1 = sp := HA.out.2.1.trans (if_pos hva)
   have ea2 : A2 = bi := HA.out.2.2.trans (if_pos hva)
   replace H5 := am (show Wr2.heap[b5]? = some (Obj.cells #[m2, .bool (validB m2), .bool m.ac, .bool m.re, .bool hd, .bool m.gr, A0, A1, A2] 39 (0, 0)) by rw [ea0, ea1, ea2]; exact H5.out)
   refine JN.out _ _ ?_
   exact ⟨rfl, rfl, rfl, rfl, H, HK, HO, H4, H5⟩
  | false =>
   go_wp2_with fail
   clear y5_1
   have ea0 : A0 = 0 := HA.out.1.trans (if_neg (by rw [hva]; decide))
   have ea1 : A1 = 0 := HA.out.2.1.trans (if_neg (by rw [hva]; decide))
   have ea2 : A2 = 0 := HA.out.2.2.trans (if_neg (by rw [hva]; decide))
   replace H5 := am (show Wm.heap[b5]? = some (Obj.cells #[m2, .bool (validB m2), .bool m.ac, .bool m.re, .bool hd, .bool m.gr, A0, A1, A2] 39 (0, 0)) by rw [ea0, ea1, ea2]; exact H5.out)
   refine JN.out _ _ ?_
   exact ⟨rfl, rfl, rfl, rfl, H, HK, HO, H4, H5⟩
 clear H HK HO H4 H5
 rintro a z0 ⟨hsz, hd, e4, e5, H, HK, HO, H4, H5⟩
 obtain ⟨T, ds⟩ := a
 obtain rfl : ds = [] := hd
 obtain ⟨S, rfl⟩ := slit23 T _ _ hsz e4 e5
 clear hsz e4 e5
 refine HKA.out _ _ ?_
 clear HKA
 have y5_0 := b_v H5 0 (.int .i64 m2) rfl
 have y4_0 := b_v H4 0 (.int .i64 0) rfl
 have f4_0 := b_z H4 0
 have y5_1 := b_v H5 1 (.bool (validB m2)) rfl
 have y4_1 := b_v H4 1 (.bool false) rfl
 have f4_1 := b_z H4 1
 have y5_2 := b_v H5 2 (.bool m.ac) rfl
 have y4_2 := b_v H4 2 (.bool false) rfl
 have f4_2 := b_z H4 2
 have y5_3 := b_v H5 3 (.bool m.re) rfl
 have y4_3 := b_v H4 3 (.bool false) rfl
 have f4_3 := b_z H4 3
 have y5_4 := b_v H5 4 (.bool hd) rfl
 have y4_4 := b_v H4 4 (.bool false) rfl
 have f4_4 := b_z H4 4
 have y5_5 := b_v H5 5 (.bool m.gr) rfl
 have y4_5 := b_v H4 5 (.bool false) rfl
 have f4_5 := b_z H4 5
 have y5_6 := b_v H5 6 (.int .i64 A0) rfl
 have y4_6 := b_v H4 6 (.int .i64 0) rfl
 have f4_6 := b_z H4 6
 have y5_7 := b_v H5 7 (.int .i64 A1) rfl
 have y4_7 := b_v H4 7 (.int .i64 0) rfl
 have f4_7 := b_z H4 7
 have y5_8 := b_v H5 8 (.int .i64 A2) rfl
 have y4_8 := b_v H4 8 (.int .i64 0) rfl
 have f4_8 := b_z H4 8
 go_wp2_with fail
 have qs0 := blk_set H4.out 0 (.int .i64 m2)
 have qs1 := blk_set qs0 1 (.bool (validB m2))
 have qs2 := blk_set qs1 2 (.bool m.ac)
 have qs3 := blk_set qs2 3 (.bool m.re)
 have qs4 := blk_set qs3 4 (.bool hd)
 have qs5 := blk_set qs4 5 (.bool m.gr)
 have qs6 := blk_set qs5 6 (.int .i64 A0)
 have qs7 := blk_set qs6 7 (.int .i64 A1)
 have qs8 := blk_set qs7 8 (.int .i64 A2)
 have qa := qs8.trans (show _ = some (Obj.cells #[m2, .bool (validB m2), .bool m.ac, .bool m.re, .bool hd, .bool m.gr, A0, A1, A2] 39 (0, 0)) by kernel_rfl)
 have qk := (((((((((Kept.refl z0 (fun k => k = b4)).setCell (p := ⟨b4, 0, none⟩) (.inl rfl) (.int .i64 m2)).setCell (p := ⟨b4, 1, none⟩) (.inl rfl) (.bool (validB m2))).setCell (p := ⟨b4, 2, none⟩) (.inl rfl) (.bool m.ac)).setCell (p := ⟨b4, 3, none⟩) (.inl rfl) (.bool m.re)).setCell (p := ⟨b4, 4, none⟩) (.inl rfl) (.bool hd)).setCell (p := ⟨b4, 5, none⟩) (.inl rfl) (.bool m.gr)).setCell (p := ⟨b4, 6, none⟩) (.inl rfl) (.int .i64 A0)).setCell (p := ⟨b4, 7, none⟩) (.inl rfl) (.int .i64 A1)).setCell (p := ⟨b4, 8, none⟩) (.inl rfl) (.int .i64 A2)
 have qb := ((((((((H.out.hb.setCell (p := ⟨b4, 0, none⟩) (Nat.le_trans hw0 l4) (.int .i64 m2)).setCell (p := ⟨b4, 1, none⟩) (Nat.le_trans hw0 l4) (.bool (validB m2))).setCell (p := ⟨b4, 2, none⟩) (Nat.le_trans hw0 l4) (.bool m.ac)).setCell (p := ⟨b4, 3, none⟩) (Nat.le_trans hw0 l4) (.bool m.re)).setCell (p := ⟨b4, 4, none⟩) (Nat.le_trans hw0 l4) (.bool hd)).setCell (p := ⟨b4, 5, none⟩) (Nat.le_trans hw0 l4) (.bool m.gr)).setCell (p := ⟨b4, 6, none⟩) (Nat.le_trans hw0 l4) (.int .i64 A0)).setCell (p := ⟨b4, 7, none⟩) (Nat.le_trans hw0 l4) (.int .i64 A1)).setCell (p := ⟨b4, 8, none⟩) (Nat.le_trans hw0 l4) (.int .i64 A2)
 have qh := H.out.but H4.out (by decide) qk qb
 have qK := HK.out.then_ qk (fun k hk => .inr (by rw [hk]; exact l4))
 clear H HK H4 qs0 qs1 qs2 qs3 qs4 qs5 qs6 qs7 qs8 qk qb
 generalize ((((((((z0.setCell ⟨b4, 0, none⟩ (.int .i64 m2)).setCell ⟨b4, 1, none⟩ (.bool (validB m2))).setCell ⟨b4, 2, none⟩ (.bool m.ac)).setCell ⟨b4, 3, none⟩ (.bool m.re)).setCell ⟨b4, 4, none⟩ (.bool hd)).setCell ⟨b4, 5, none⟩ (.bool m.gr)).setCell ⟨b4, 6, none⟩ (.int .i64 A0)).setCell ⟨b4, 7, none⟩ (.int .i64 A1)).setCell ⟨b4, 8, none⟩ (.int .i64 A2) = z1 at qa qh qK ⊢
 have H := am qh
 have HK := am qK
 have H4 := am qa
 clear qa qh qK
 refine bodyPost_ret (results_cell_row rfl _ _ b4 39 #[m2, .bool (validB m2), .bool m.ac, .bool m.re, .bool hd, .bool m.gr, A0, A1, A2] (0, 0) _ rfl H4.out Tryz.underlying39 rfl (by kernel_rfl)) rfl ?_
 exact ⟨v3, rfl, H.out, HK.out, HO.out⟩
end Go.Proofs.YtpdahkgandaabaaGreatDoor.Ch
