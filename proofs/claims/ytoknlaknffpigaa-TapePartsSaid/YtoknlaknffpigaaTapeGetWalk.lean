/- Ticks of bytes (layer 21): the walk of Get. -/
import Derived.Test.YtoknlaknffpigaaTapePlain
import Derived.Test.YtoknlaknffpigaaTapeFixed
import Derived.Deep.RegionWith
import Derived.Deep.Cut
import Derived.Deep.CutRange
namespace Go.Proofs.Ytoknlaknffpigaa.Tp
open Go.RowKit Go.Proofs.YtoknlaknffpigaaW.PrintWords Go.Proofs.YtoknlaknffpigaaW.PrintLast Go.Proofs.YtoknlaknffpigaaW.PrintMore Go.Proofs.Ytoknlaknffpigaa.PTapePuts Go.Proofs.Ytoknlaknffpigaa.Tm
set_option linter.unusedVariables false
set_option linter.unusedSimpArgs false
def lenOf : Value → Nat
  | .slice _ n _ => n
  | _ => 0
set_option maxRecDepth 100000 in
set_option maxHeartbeats 4000000 in
theorem get_walk (w : World) (A : Option Addr) (c : Nat) (b : List Int) (hr : Kd.C (Kd.int .u8) w A b.length b) (hc : b.length ≤ c) (hb : Bytes b) (hl : b.length ≤ 100000) :
    Calls Try.prog 46 #[.slice A b.length c] w fun e w' => ∃ v : Value, e = .returned (.tuple #[v, .int .i64 (get (b.length + 1) b []).2]) ∧ Kd.R k33 33 w' w.heap.size (fun _ => True) v (get (b.length + 1) b []).1 ∧ Below w.heap.size w w' := by
  obtain ⟨G, hG⟩ : ∃ G, G = get (b.length + 1) b [] := ⟨_, rfl⟩
  rw [← hG]
  go_enter Try.func46, Try.ntmps46
  go_wp2_with fail
  have HO0 := Aside0.mk (show Kd.R k33 33 w w.heap.size (fun _ => True) (.slice none 0 0) [] from Kd.R_nil _ _ _ _ _)
  have HB0 := Aside0.mk (Below.refl w.heap.size w)
  have HR0 := Aside0.mk hr
  have HG0 := Aside0.mk hG
  have HS0 := Aside0.mk hb
  clear hr hG hb
  go_loopw [0, 4] (fun v0 v4 wr => ∃ (m : Nat) (y : List Int) (acc : List S33) (B : Option Addr) (d : Nat), v0 = .slice B y.length d ∧ y.length ≤ d ∧ y.length < m ∧ y.length ≤ 100000 ∧ acc.length + y.length ≤ 100000 ∧ Aside0 (G = get m y acc) ∧ Aside0 (Bytes y) ∧ Aside0 (Kd.C (Kd.int .u8) w B y.length y) ∧ Aside0 (Kd.R k33 33 wr w.heap.size (fun _ => True) v4 acc) ∧ Aside0 (Below w.heap.size w wr)) (fun v0 _ _ => lenOf v0)
  case atStart => exact ⟨b.length + 1, b, [], A, c, rfl, hc, Nat.lt_succ_self _, hl, by simpa using hl, HG0, HS0, HR0, HO0, HB0⟩
  case round =>
    clear HO0 HB0 HR0 HG0 HS0
    obtain ⟨m, y, acc, B, d, rfl, hyd, hm, hyl, hal, HG, HS, HR, HO, HB⟩ := hrel
    obtain ⟨n, rfl⟩ : ∃ n, m = n + 1 := ⟨m - 1, by omega⟩
    by_cases h0 : y.length = 0
    · have hg : G = (acc, 0) := by rw [HG.out, get, if_pos h0]
      clear HG HS HR
      subst hg
      rw [h0]
      go_wp2_with fail
      refine bodyPost_ret (results_tmp2 rfl _ _ _) rfl ?_
      exact ⟨_, rfl, HO.out, HB.out⟩
    · have p1 : (0 : Int) < (y.length : Int) := by omega
      have p0 : (0 : Int) ≤ (0 : Int) := Int.le_refl _
      obtain ⟨ad, rfl, hx⟩ := Kd.at_int HR.out 0 p0 p1
      rw [show ((0 : Int)).toNat = 0 from rfl, Addr.add_zero'] at hx
      have hx0 := (HB.out.cell (World.block_lt_of_cell? w _ hx)).trans hx
      clear hx
      have hf := HS.out.at_ 0
      obtain ⟨f, hff⟩ : ∃ f, f = rd y 0 := ⟨_, rfl⟩
      rw [← hff] at hx0 hf
      have hg : G = if f > 3 then ([], 6) else if (y.length : Int) < 9 + 8 * (f % 2) then ([], 5)
          else if f % 2 = 1 then get n (y.drop 17) (acc ++ [⟨num8 (y.drop 1), true, num8 (y.drop 9), f / 2 == 1⟩])
          else get n (y.drop 9) (acc ++ [⟨num8 (y.drop 1), false, 0, f / 2 == 1⟩]) := by rw [HG.out, get, if_neg h0, ← hff]
      have HGG := Aside0.mk hg
      clear hg HG hff
      by_cases h3 : f > 3
      · have d3 : decide (3 < f) = true := decide_eq_true h3
        have hg : G = ([], 6) := by rw [HGG.out, if_pos h3]
        clear HGG
        subst hg
        go_wp2_with fail
        refine bodyPost_ret (results_tmp2 rfl _ _ _) rfl ?_
        exact ⟨_, rfl, Kd.R_nil _ _ _ _ _, HB.out⟩
      · have d3 : decide (3 < f) = false := decide_eq_false h3
        obtain ⟨i5, hi5, _, hs5, _⟩ := info_parts info5
        have key : ∀ (f2 : Int) (c3 : Bool), f % 2 = f2 → (f / 2 == 1) = c3 → Go.bits .and .u8 f 1 = f2 → (Go.bits .and .u8 f 2 == 2) = c3 → (f2 = 0 ∨ f2 = 1) → True := fun _ _ _ _ _ _ _ => trivial
        obtain ⟨f2, hf2⟩ : ∃ f2, f2 = f % 2 := ⟨_, rfl⟩
        obtain ⟨c3, hc3⟩ : ∃ c3, c3 = (f / 2 == 1) := ⟨_, rfl⟩
        obtain ⟨g4, hg4⟩ := small hf.1 (by omega)
        have a1 : Go.bits .and .u8 f 1 = f2 := by rw [hf2, hg4]; exact and1 g4
        have a2 : (Go.bits .and .u8 f 2 == 2) = c3 := by rw [hc3, hg4]; exact and2 g4
        have hf01 : f2 = 0 ∨ f2 = 1 := by omega
        rw [if_neg h3, ← hf2, ← hc3] at HGG
        clear key hf2 hc3 hg4
        rcases hf01 with rfl | rfl
        · by_cases h5 : y.length < 9
          · have d5 : decide ((y.length : Int) < 9) = true := decide_eq_true (by omega)
            have hg : G = ([], 5) := by rw [HGG.out, if_pos (by omega)]
            clear HGG
            subst hg
            go_wp2_with fail
            refine bodyPost_ret (results_tmp2 rfl _ _ _) rfl ?_
            exact ⟨_, rfl, Kd.R_nil _ _ _ _ _, HB.out⟩
          · have d5 : decide ((y.length : Int) < 9) = false := decide_eq_false (by omega)
            have q9 : (9 : Int) ≤ (y.length : Int) := by omega
            obtain ⟨A1, sl1, rd1, le1⟩ := print_drop_of (P := Try.prog) (Value.int .u8) (0 : Int) 68 5 .i64 Try.underlying68 hi5 hs5 (some ad) d y 1 (by omega) (by omega) hyd
            obtain ⟨A9, sl9, rd9, le9⟩ := print_drop_of (P := Try.prog) (Value.int .u8) (0 : Int) 68 5 .i64 Try.underlying68 hi5 hs5 (some ad) d y 9 (by omega) (by omega) hyd
            have hC1 : Kd.C (Kd.int .u8) w A1 (y.drop 1).length (y.drop 1) := Kd.C_of_reads (d := (0 : Int)) (h1 := fun _ => rfl) (rd1 w (Kd.reads_of_C (enc := Value.int .u8) (d := (0 : Int)) (h1 := fun _ => rfl) HR.out))
            have hC9 : Kd.C (Kd.int .u8) w A9 (y.drop 9).length (y.drop 9) := Kd.C_of_reads (d := (0 : Int)) (h1 := fun _ => rfl) (rd9 w (Kd.reads_of_C (enc := Value.int .u8) (d := (0 : Int)) (h1 := fun _ => rfl) HR.out))
            have hg : G = get n (y.drop 9) (acc ++ [⟨num8 (y.drop 1), false, 0, c3⟩]) := by rw [HGG.out, if_neg (by omega), if_neg (by omega)]
            have HG9 := Aside0.mk hg
            have HR9 := Aside0.mk hC9
            clear hg HGG hC9 rd1 rd9
            obtain ⟨n1, hn1⟩ : ∃ n1, n1 = num8 (y.drop 1) := ⟨_, rfl⟩
            rw [← hn1] at HG9
            have hnum := tape_number.calls 9 A1 (d - 1) (y.drop 1) n1 wr (Kd.C_below hC1 HB.out) le1 (by rw [hn1]; exact tnumber_f 0 _ (HS.out.drop 1) (by rw [List.length_drop]; omega) (by rw [List.length_drop]; omega))
            rw [List.length_drop] at hnum
            clear hn1 hC1
            go_wp2_with fail
            refine hnum.mono ?_
            rintro e w3 ⟨rfl, hd3⟩
            have hb3 := hd3.below
            replace HO := Aside0.mk (Kd.R_below HO.out hb3)
            replace HB := Aside0.mk (below_step HB.out hb3)
            clear hd3 hb3 hnum hx0
            have hne0 : some w3.heap.size ≠ u4.ownBlock := Kd.R_ne_new HO.out 0
            obtain ⟨b7, hb7⟩ : ∃ b7, b7 = w3.heap.size := ⟨_, rfl⟩
            rw [← hb7] at hne0
            have hne := Aside0.mk hne0
            have HX : Aside0 ((w3.alloc (.cells #[.int .i64 n1, .bool false, .int .i64 0, .bool c3] 33)).heap[b7]? = some (.cells #[.int .i64 n1, .bool false, .int .i64 0, .bool c3] 33 (0, 0))) := ⟨by rw [hb7]; exact blk_new _ _⟩
            replace HO := Aside0.mk (Kd.R_alloc HO.out (.cells #[.int .i64 n1, .bool false, .int .i64 0, .bool c3] 33))
            replace HB := Aside0.mk (below_alloc HB.out (.cells #[.int .i64 n1, .bool false, .int .i64 0, .bool c3] 33))
            have hd1 : (w3.alloc (.cells #[.int .i64 n1, .bool false, .int .i64 0, .bool c3] 33)).cell? ⟨b7, 1, none⟩ = some (.bool false) := (blk_cell HX.out 1).trans rfl
            rw [hb7] at hd1
            clear hne0
            go_upto_region 12 with fail
            rw [← hb7]
            clear hd1 hb7
            generalize w3.alloc (.cells #[.int .i64 n1, .bool false, .int .i64 0, .bool c3] 33) = W at HX HO HB ⊢
-- REGIONA
            refine start_ (n := 9) (S := fun w' => w'.heap[b7]? = some (.cells #[.int .i64 n1, .bool false, .int .i64 0, .bool c3] 33 (0, 0))) (ds := []) #[false, false, false, false, false, false, false, false, false] (by kernel_rfl) rfl rfl HX.out (fun hHeld => ?_)
            replace HO := Aside0.mk (Kd.R_drew HO.out)
            replace HB := Aside0.mk (below_drew HB.out)
            replace HX := Aside0.mk (blk_drew HX.out)
            generalize W.drew = Wd at HO HB HX hHeld ⊢
            refine pure_ (i := 0) (N := (some 43)) (v := ?_) (a' := ?_) #[true, false, false, false, false, false, false, false, false] rfl rfl (by kernel_rfl) (fun _ _ _ h => h) (Or.inl ⟨by rfl, ?_⟩) ?_ ?_
            rotate_left
            · intro w'
              go_simp
              with_reducible rfl
            rotate_left
            · simp only [Act.put, List.setIfInBounds_toArray, List.set_cons_zero, List.set_cons_succ, i64_w, i32_w]
              rfl
            refine take_ (i := 1) (N := (some 44)) (v := ?_) (a' := ?_) #[true, true, false, false, false, false, false, false, false] rfl rfl (by kernel_rfl) (fun _ _ _ h => h) (Or.inl ⟨by rfl, ?_⟩) hHeld ?_ ?_
            rotate_left
            · intro w' hS
              have s0 : w'.cell? ⟨b7, 0, none⟩ = _ := (blk_cell hS 0).trans rfl
              have s1 : w'.cell? ⟨b7, 1, none⟩ = _ := (blk_cell hS 1).trans rfl
              have s2 : w'.cell? ⟨b7, 2, none⟩ = _ := (blk_cell hS 2).trans rfl
              have s3 : w'.cell? ⟨b7, 3, none⟩ = _ := (blk_cell hS 3).trans rfl
              go_simp
              with_reducible rfl
            rotate_left
            · simp only [Act.put, List.setIfInBounds_toArray, List.set_cons_zero, List.set_cons_succ, i64_w, i32_w]
              rfl
            refine pure_ (i := 4) (N := (some 47)) (v := ?_) (a' := ?_) #[true, true, false, false, true, false, false, false, false] rfl rfl (by kernel_rfl) (fun _ _ _ h => h) (Or.inl ⟨by rfl, ?_⟩) ?_ ?_
            rotate_left
            · intro w'
              go_simp
              with_reducible rfl
            rotate_left
            · simp only [Act.put, List.setIfInBounds_toArray, List.set_cons_zero, List.set_cons_succ, i64_w, i32_w]
              rfl
            refine pure_ (i := 5) (N := (some 48)) (v := ?_) (a' := ?_) #[true, true, false, false, true, true, false, false, false] rfl rfl (by kernel_rfl) (fun _ _ _ h => h) (Or.inl ⟨by rfl, ?_⟩) ?_ ?_
            rotate_left
            · intro w'
              go_simp
              with_reducible rfl
            rotate_left
            · simp only [Act.put, List.setIfInBounds_toArray, List.set_cons_zero, List.set_cons_succ, i64_w, i32_w]
              rfl
            refine pure_ (i := 6) (N := (some 49)) (v := ?_) (a' := ?_) #[true, true, false, false, true, true, true, false, false] rfl rfl (by kernel_rfl) (fun _ _ _ h => h) (Or.inl ⟨by rfl, ?_⟩) ?_ ?_
            rotate_left
            · intro w'
              go_simp
              with_reducible rfl
            rotate_left
            · simp only [Act.put, List.setIfInBounds_toArray, List.set_cons_zero, List.set_cons_succ, i64_w, i32_w]
              rfl
            refine one_ (i := 2) (N := (some 45)) #[true, true, true, false, true, true, true, false, false] rfl rfl (by kernel_rfl) (by decide) (fun K hK => ?_)
            refine event_step (v := .slice (some ⟨Wd.heap.size, 0, none⟩) 1 1) (w1 := Wd.alloc (.cells #[.int .i64 n1, .bool false, .int .i64 0, .bool c3] 33)) (by rfl) (by first | (go_simp; done) | (go_simp; rfl)) ?_
            replace HO := Aside0.mk (Kd.R_alloc HO.out (.cells #[.int .i64 n1, .bool false, .int .i64 0, .bool c3] 33))
            replace HB := Aside0.mk (below_alloc HB.out (.cells #[.int .i64 n1, .bool false, .int .i64 0, .bool c3] 33))
            replace HX := Aside0.mk (blk_alloc HX.out (.cells #[.int .i64 n1, .bool false, .int .i64 0, .bool c3] 33))
            have H45 := Aside0.mk (blk_new Wd (.cells #[.int .i64 n1, .bool false, .int .i64 0, .bool c3] 33))
            generalize Wd.alloc (.cells #[.int .i64 n1, .bool false, .int .i64 0, .bool c3] 33) = W1 at HO HB HX H45 ⊢
            generalize Wd.heap.size = g45 at H45 ⊢
            refine hK.out _ _ HX.out (fun hHeld => ?_)
            clear hK K
            refine norm_ (a' := ?_) ?_ ?_
            rotate_left
            · show Act.put _ (some 45) _ = _
              simp only [Act.put, List.setIfInBounds_toArray, List.set_cons_zero, List.set_cons_succ, i64_w, i32_w]
              rfl
            refine one_ (i := 3) (N := (some 46)) #[true, true, true, true, true, true, true, false, false] rfl rfl (by kernel_rfl) (by decide) (fun K hK => ?_)
            refine Kd.R_append_rows_step k33 (w0 := w) w.heap.size (by rfl) (.tmp 43) (.tmp 45) 37 33 (.agg #[(.int .i64 0), (.bool false), (.int .i64 0), (.bool false)]) 32 rfl Try.underlying37 info33 rfl (by decide) (by omega) u4 acc [⟨n1, false, 0, c3⟩] (some ⟨g45, 0, none⟩) 1 1 (fun _ => True) (fun _ => False) rfl rfl HO.out (tick_block H45.out) (fun _ _ h => h) (fun _ h => h.elim) (fun _ _ => trivial) HB.out HB.out.size (by omega) ?_
            intro v46 W2 ho hb hg hat
            replace HO := Aside0.mk ho
            replace HB := Aside0.mk hb
            replace HX := Aside0.mk (blk_grown HX.out hg hne.out)
            clear ho hb hg hat H45
            refine hK.out _ _ HX.out (fun hHeld => ?_)
            clear hK K
            refine norm_ (a' := ?_) ?_ ?_
            rotate_left
            · show Act.put _ (some 46) _ = _
              simp only [Act.put, List.setIfInBounds_toArray, List.set_cons_zero, List.set_cons_succ, i64_w, i32_w]
              rfl
            refine pure_ (i := 7) (N := (some 4)) (v := ?_) (a' := ?_) #[true, true, true, true, true, true, true, true, false] rfl rfl (by kernel_rfl) (fun _ _ _ h => h) (Or.inl ⟨by rfl, ?_⟩) ?_ ?_
            rotate_left
            · intro w'
              go_simp
              with_reducible rfl
            rotate_left
            · simp only [Act.put, List.setIfInBounds_toArray, List.set_cons_zero, List.set_cons_succ, i64_w, i32_w]
              rfl
            refine pure_ (i := 8) (N := (some 0)) (v := ?_) (a' := ?_) #[true, true, true, true, true, true, true, true, true] rfl rfl (by kernel_rfl) (fun _ _ _ h => h) (Or.inl ⟨by rfl, ?_⟩) ?_ ?_
            rotate_left
            · intro w'
              go_simp
              with_reducible rfl
            rotate_left
            · simp only [Act.put, List.setIfInBounds_toArray, List.set_cons_zero, List.set_cons_succ, i64_w, i32_w]
              rfl
            refine done_ (by kernel_rfl) ?_
-- ENDA
            go_wp2
            go_roundw
            case rel => exact ⟨n, y.drop 9, acc ++ [⟨n1, false, 0, c3⟩], A9, d - 9, by rw [List.length_drop], by rw [List.length_drop]; omega, by rw [List.length_drop]; omega, by rw [List.length_drop]; omega, by simp; omega, HG9, ⟨HS.out.drop 9⟩, HR9, HO, HB⟩
            case measure => simp [lenOf]; omega
        · by_cases h5 : y.length < 17
          · have d5 : decide ((y.length : Int) < 17) = true := decide_eq_true (by omega)
            have hg : G = ([], 5) := by rw [HGG.out, if_pos (by omega)]
            clear HGG
            subst hg
            go_wp2_with fail
            refine bodyPost_ret (results_tmp2 rfl _ _ _) rfl ?_
            exact ⟨_, rfl, Kd.R_nil _ _ _ _ _, HB.out⟩
          · have d5 : decide ((y.length : Int) < 17) = false := decide_eq_false (by omega)
            have q9 : (17 : Int) ≤ (y.length : Int) := by omega
            have q9' : (9 : Int) ≤ (y.length : Int) := by omega
            obtain ⟨A1, sl1, rd1, le1⟩ := print_drop_of (P := Try.prog) (Value.int .u8) (0 : Int) 68 5 .i64 Try.underlying68 hi5 hs5 (some ad) d y 1 (by omega) (by omega) hyd
            obtain ⟨A9, sl9, rd9, le9⟩ := print_drop_of (P := Try.prog) (Value.int .u8) (0 : Int) 68 5 .i64 Try.underlying68 hi5 hs5 (some ad) d y 9 (by omega) (by omega) hyd
            obtain ⟨A17, sl17, rd17, le17⟩ := print_drop_of (P := Try.prog) (Value.int .u8) (0 : Int) 68 5 .i64 Try.underlying68 hi5 hs5 (some ad) d y 17 (by omega) (by omega) hyd
            have hC1 : Kd.C (Kd.int .u8) w A1 (y.drop 1).length (y.drop 1) := Kd.C_of_reads (d := (0 : Int)) (h1 := fun _ => rfl) (rd1 w (Kd.reads_of_C (enc := Value.int .u8) (d := (0 : Int)) (h1 := fun _ => rfl) HR.out))
            have hC9 : Kd.C (Kd.int .u8) w A9 (y.drop 9).length (y.drop 9) := Kd.C_of_reads (d := (0 : Int)) (h1 := fun _ => rfl) (rd9 w (Kd.reads_of_C (enc := Value.int .u8) (d := (0 : Int)) (h1 := fun _ => rfl) HR.out))
            have hC17 : Kd.C (Kd.int .u8) w A17 (y.drop 17).length (y.drop 17) := Kd.C_of_reads (d := (0 : Int)) (h1 := fun _ => rfl) (rd17 w (Kd.reads_of_C (enc := Value.int .u8) (d := (0 : Int)) (h1 := fun _ => rfl) HR.out))
            have hg : G = get n (y.drop 17) (acc ++ [⟨num8 (y.drop 1), true, num8 (y.drop 9), c3⟩]) := by rw [HGG.out, if_neg (by omega), if_pos rfl]
            have HG9 := Aside0.mk hg
            have HR9 := Aside0.mk hC17
            clear hg HGG hC17 rd1 rd9 rd17
            obtain ⟨n1, hn1⟩ : ∃ n1, n1 = num8 (y.drop 1) := ⟨_, rfl⟩
            rw [← hn1] at HG9
            obtain ⟨n2, hn2⟩ : ∃ n2, n2 = num8 (y.drop 9) := ⟨_, rfl⟩
            rw [← hn2] at HG9
            have hnum := tape_number.calls 9 A1 (d - 1) (y.drop 1) n1 wr (Kd.C_below hC1 HB.out) le1 (by rw [hn1]; exact tnumber_f 0 _ (HS.out.drop 1) (by rw [List.length_drop]; omega) (by rw [List.length_drop]; omega))
            rw [List.length_drop] at hnum
            clear hn1 hC1
            go_wp2_with fail
            refine hnum.mono ?_
            rintro e w3 ⟨rfl, hd3⟩
            have hb3 := hd3.below
            replace HO := Aside0.mk (Kd.R_below HO.out hb3)
            replace HB := Aside0.mk (below_step HB.out hb3)
            clear hd3 hb3 hnum hx0
            have hne0 : some w3.heap.size ≠ u4.ownBlock := Kd.R_ne_new HO.out 0
            have HB0 := HB
            obtain ⟨b7, hb7⟩ : ∃ b7, b7 = w3.heap.size := ⟨_, rfl⟩
            rw [← hb7] at hne0
            have hne := Aside0.mk hne0
            have HX : Aside0 ((w3.alloc (.cells #[.int .i64 n1, .bool true, .int .i64 0, .bool c3] 33)).heap[b7]? = some (.cells #[.int .i64 n1, .bool true, .int .i64 0, .bool c3] 33 (0, 0))) := ⟨by rw [hb7]; exact blk_new _ _⟩
            replace HO := Aside0.mk (Kd.R_alloc HO.out (.cells #[.int .i64 n1, .bool true, .int .i64 0, .bool c3] 33))
            replace HB := Aside0.mk (below_alloc HB.out (.cells #[.int .i64 n1, .bool true, .int .i64 0, .bool c3] 33))
            have hd1 : (w3.alloc (.cells #[.int .i64 n1, .bool true, .int .i64 0, .bool c3] 33)).cell? ⟨b7, 1, none⟩ = some (.bool true) := (blk_cell HX.out 1).trans rfl
            rw [hb7] at hd1
            clear hne0
            have hnum2 := fun (X : World) (hX : Below w.heap.size w X) => tape_number.calls 9 A9 (d - 9) (y.drop 9) n2 X (Kd.C_below hC9 hX) le9 (by rw [hn2]; exact tnumber_f 0 _ (HS.out.drop 9) (by rw [List.length_drop]; omega) (by rw [List.length_drop]; omega))
            rw [List.length_drop] at hnum2
            clear hn2 hC9
            go_wp2_with fail
            refine (hnum2 _ HB.out).mono ?_
            rintro e w5 ⟨rfl, hd5⟩
            have hb5 := hd5.below
            rw [← hb7] at hd1 ⊢
            replace HX := Aside0.mk (blk_below HX.out hb5)
            replace HO := Aside0.mk (Kd.R_below HO.out hb5)
            replace HB := Aside0.mk (below_step HB.out hb5)
            have hbb : w.heap.size ≤ b7 := by rw [hb7]; exact Nat.le_trans HB0.out.size (Nat.le_refl _)
            clear hd5 hb5 hnum2 hd1 hb7 HB0
            have f2 : w5.frozen? ⟨b7, 2, none⟩ = false := blk_frozen HX.out 2
            have g2 : w5.cell? ⟨b7, 2, none⟩ = some (.int .i64 0) := (blk_cell HX.out 2).trans rfl
            have HX2 := Aside0.mk (blk_set HX.out 2 (.int .i64 n2))
            have HO2 := Aside0.mk (Kd.R_mono (ok' := fun _ => True) (Kd.R_far (p := ⟨b7, 2, none⟩) (Kd.R_tight rfl HO.out) (fun k hk e => hne.out (by rw [← hk, e])) (.int .i64 n2)) (fun _ _ => trivial))
            have HB2 := Aside0.mk (HB.out.setCell (p := ⟨b7, 2, none⟩) hbb (.int .i64 n2))
            clear HO HB HX
            go_upto_region 12 with fail
            clear f2 g2
            have HX := HX2
            have HO := HO2
            have HB := HB2
            clear HX2 HO2 HB2
            generalize w5.setCell ⟨b7, 2, none⟩ (.int .i64 n2) = W at HX HO HB ⊢
-- REGIONB
            refine start_ (n := 9) (S := fun w' => w'.heap[b7]? = some (.cells #[.int .i64 n1, .bool true, .int .i64 n2, .bool c3] 33 (0, 0))) (ds := []) #[false, false, false, false, false, false, false, false, false] (by kernel_rfl) rfl rfl HX.out (fun hHeld => ?_)
            replace HO := Aside0.mk (Kd.R_drew HO.out)
            replace HB := Aside0.mk (below_drew HB.out)
            replace HX := Aside0.mk (blk_drew HX.out)
            generalize W.drew = Wd at HO HB HX hHeld ⊢
            refine pure_ (i := 0) (N := (some 43)) (v := ?_) (a' := ?_) #[true, false, false, false, false, false, false, false, false] rfl rfl (by kernel_rfl) (fun _ _ _ h => h) (Or.inl ⟨by rfl, ?_⟩) ?_ ?_
            rotate_left
            · intro w'
              go_simp
              with_reducible rfl
            rotate_left
            · simp only [Act.put, List.setIfInBounds_toArray, List.set_cons_zero, List.set_cons_succ, i64_w, i32_w]
              rfl
            refine take_ (i := 1) (N := (some 44)) (v := ?_) (a' := ?_) #[true, true, false, false, false, false, false, false, false] rfl rfl (by kernel_rfl) (fun _ _ _ h => h) (Or.inl ⟨by rfl, ?_⟩) hHeld ?_ ?_
            rotate_left
            · intro w' hS
              have s0 : w'.cell? ⟨b7, 0, none⟩ = _ := (blk_cell hS 0).trans rfl
              have s1 : w'.cell? ⟨b7, 1, none⟩ = _ := (blk_cell hS 1).trans rfl
              have s2 : w'.cell? ⟨b7, 2, none⟩ = _ := (blk_cell hS 2).trans rfl
              have s3 : w'.cell? ⟨b7, 3, none⟩ = _ := (blk_cell hS 3).trans rfl
              go_simp
              with_reducible rfl
            rotate_left
            · simp only [Act.put, List.setIfInBounds_toArray, List.set_cons_zero, List.set_cons_succ, i64_w, i32_w]
              rfl
            refine pure_ (i := 4) (N := (some 47)) (v := ?_) (a' := ?_) #[true, true, false, false, true, false, false, false, false] rfl rfl (by kernel_rfl) (fun _ _ _ h => h) (Or.inl ⟨by rfl, ?_⟩) ?_ ?_
            rotate_left
            · intro w'
              go_simp
              with_reducible rfl
            rotate_left
            · simp only [Act.put, List.setIfInBounds_toArray, List.set_cons_zero, List.set_cons_succ, i64_w, i32_w]
              rfl
            refine pure_ (i := 5) (N := (some 48)) (v := ?_) (a' := ?_) #[true, true, false, false, true, true, false, false, false] rfl rfl (by kernel_rfl) (fun _ _ _ h => h) (Or.inl ⟨by rfl, ?_⟩) ?_ ?_
            rotate_left
            · intro w'
              go_simp
              with_reducible rfl
            rotate_left
            · simp only [Act.put, List.setIfInBounds_toArray, List.set_cons_zero, List.set_cons_succ, i64_w, i32_w]
              rfl
            refine pure_ (i := 6) (N := (some 49)) (v := ?_) (a' := ?_) #[true, true, false, false, true, true, true, false, false] rfl rfl (by kernel_rfl) (fun _ _ _ h => h) (Or.inl ⟨by rfl, ?_⟩) ?_ ?_
            rotate_left
            · intro w'
              go_simp
              with_reducible rfl
            rotate_left
            · simp only [Act.put, List.setIfInBounds_toArray, List.set_cons_zero, List.set_cons_succ, i64_w, i32_w]
              rfl
            refine one_ (i := 2) (N := (some 45)) #[true, true, true, false, true, true, true, false, false] rfl rfl (by kernel_rfl) (by decide) (fun K hK => ?_)
            refine event_step (v := .slice (some ⟨Wd.heap.size, 0, none⟩) 1 1) (w1 := Wd.alloc (.cells #[.int .i64 n1, .bool true, .int .i64 n2, .bool c3] 33)) (by rfl) (by first | (go_simp; done) | (go_simp; rfl)) ?_
            replace HO := Aside0.mk (Kd.R_alloc HO.out (.cells #[.int .i64 n1, .bool true, .int .i64 n2, .bool c3] 33))
            replace HB := Aside0.mk (below_alloc HB.out (.cells #[.int .i64 n1, .bool true, .int .i64 n2, .bool c3] 33))
            replace HX := Aside0.mk (blk_alloc HX.out (.cells #[.int .i64 n1, .bool true, .int .i64 n2, .bool c3] 33))
            have H45 := Aside0.mk (blk_new Wd (.cells #[.int .i64 n1, .bool true, .int .i64 n2, .bool c3] 33))
            generalize Wd.alloc (.cells #[.int .i64 n1, .bool true, .int .i64 n2, .bool c3] 33) = W1 at HO HB HX H45 ⊢
            generalize Wd.heap.size = g45 at H45 ⊢
            refine hK.out _ _ HX.out (fun hHeld => ?_)
            clear hK K
            refine norm_ (a' := ?_) ?_ ?_
            rotate_left
            · show Act.put _ (some 45) _ = _
              simp only [Act.put, List.setIfInBounds_toArray, List.set_cons_zero, List.set_cons_succ, i64_w, i32_w]
              rfl
            refine one_ (i := 3) (N := (some 46)) #[true, true, true, true, true, true, true, false, false] rfl rfl (by kernel_rfl) (by decide) (fun K hK => ?_)
            refine Kd.R_append_rows_step k33 (w0 := w) w.heap.size (by rfl) (.tmp 43) (.tmp 45) 37 33 (.agg #[(.int .i64 0), (.bool false), (.int .i64 0), (.bool false)]) 32 rfl Try.underlying37 info33 rfl (by decide) (by omega) u4 acc [⟨n1, true, n2, c3⟩] (some ⟨g45, 0, none⟩) 1 1 (fun _ => True) (fun _ => False) rfl rfl HO.out (tick_block H45.out) (fun _ _ h => h) (fun _ h => h.elim) (fun _ _ => trivial) HB.out HB.out.size (by omega) ?_
            intro v46 W2 ho hb hg hat
            replace HO := Aside0.mk ho
            replace HB := Aside0.mk hb
            replace HX := Aside0.mk (blk_grown HX.out hg hne.out)
            clear ho hb hg hat H45
            refine hK.out _ _ HX.out (fun hHeld => ?_)
            clear hK K
            refine norm_ (a' := ?_) ?_ ?_
            rotate_left
            · show Act.put _ (some 46) _ = _
              simp only [Act.put, List.setIfInBounds_toArray, List.set_cons_zero, List.set_cons_succ, i64_w, i32_w]
              rfl
            refine pure_ (i := 7) (N := (some 4)) (v := ?_) (a' := ?_) #[true, true, true, true, true, true, true, true, false] rfl rfl (by kernel_rfl) (fun _ _ _ h => h) (Or.inl ⟨by rfl, ?_⟩) ?_ ?_
            rotate_left
            · intro w'
              go_simp
              with_reducible rfl
            rotate_left
            · simp only [Act.put, List.setIfInBounds_toArray, List.set_cons_zero, List.set_cons_succ, i64_w, i32_w]
              rfl
            refine pure_ (i := 8) (N := (some 0)) (v := ?_) (a' := ?_) #[true, true, true, true, true, true, true, true, true] rfl rfl (by kernel_rfl) (fun _ _ _ h => h) (Or.inl ⟨by rfl, ?_⟩) ?_ ?_
            rotate_left
            · intro w'
              go_simp
              with_reducible rfl
            rotate_left
            · simp only [Act.put, List.setIfInBounds_toArray, List.set_cons_zero, List.set_cons_succ, i64_w, i32_w]
              rfl
            refine done_ (by kernel_rfl) ?_
-- ENDB
            go_wp2
            go_roundw
            case rel => exact ⟨n, y.drop 17, acc ++ [⟨n1, true, n2, c3⟩], A17, d - 17, by rw [List.length_drop], by rw [List.length_drop]; omega, by rw [List.length_drop]; omega, by rw [List.length_drop]; omega, by simp; omega, HG9, ⟨HS.out.drop 17⟩, HR9, HO, HB⟩
            case measure => simp [lenOf]; omega
end Go.Proofs.Ytoknlaknffpigaa.Tp
