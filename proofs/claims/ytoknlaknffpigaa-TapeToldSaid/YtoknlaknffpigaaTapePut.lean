/- The bytes of ticks (layer 21): the walk of Put. -/
import Derived.Test.YtoknlaknffpigaaTapeNums
import Derived.Deep.RegionWith
import Derived.Deep.Cut
import Derived.Deep.CutRange
namespace Go.Proofs.Ytoknlaknffpigaa.Tp
open Go.RowKit Go.Proofs.YtoknlaknffpigaaW.PrintWords Go.Proofs.YtoknlaknffpigaaW.PrintLast Go.Proofs.YtoknlaknffpigaaW.PrintMore Go.Proofs.Ytoknlaknffpigaa.PTapePuts Go.Proofs.Ytoknlaknffpigaa.Tm

/-- A tick's bytes; a tick that has none. -/
def tb (t : S33) : List Int := (b1 t.f1 + 2 * b1 t.f3) :: (le8 t.f0 ++ if t.f1 then le8 t.f2 else [])
def bad (t : S33) : Bool := !t.f1 && t.f2 != 0
def put (l : List S33) : List Int × Int := if l.any bad then ([], 1) else (l.flatMap tb, 0)
theorem tb_length (t : S33) : (tb t).length ≤ 17 := by
  unfold tb
  cases t.f1 <;> simp [le8_length]
theorem tbs_length (l : List S33) : (l.flatMap tb).length ≤ 17 * l.length := by
  induction l with
  | nil => simp
  | cons t r ih =>
    rw [List.flatMap_cons, List.length_append, List.length_cons]
    have := tb_length t
    omega
theorem take_rd (l : List S33) (k : Nat) (h : k < l.length) : l.take (k + 1) = l.take k ++ [rd_T33 l (k : Int)] := by
  rw [List.take_succ_eq_append_getElem h]
  congr 2
  unfold rd_T33
  simp [List.getD_eq_getElem?_getD, List.getElem?_eq_getElem h]

theorem c_block {α : Type} {enc : α → Value} {h1 : ∀ x, (enc x).oneCell' = true} {w : World} {g t : Nat} (xs : List α) (h : w.heap[g]? = some (.cells (xs.map enc).toArray t (0, 0))) (hl : xs.length ≤ 9223372036854775807) : Kd.C (Kd.scalar enc h1) w (some ⟨g, 0, none⟩) xs.length xs := by
  refine ⟨rfl, hl, fun _ => ⟨_, rfl, fun j p hj => ⟨[enc p], rfl, rfl, fun i u hu => ?_⟩⟩⟩
  have hi : i = 0 := by
    have := (List.getElem?_eq_some_iff.1 hu).1
    simpa using this
  subst hi
  have hu' : u = enc p := by simpa using hu.symm
  subst hu'
  rw [show ((Kd.scalar enc h1).sz) = 1 from rfl, Nat.mul_one, Nat.add_zero, add_plain, blk_cell h]
  simp [hj]
theorem bools_of_block {w : World} {g t : Nat} {a b : Bool} (h : w.heap[g]? = some (.cells #[.bool a, .bool b] t (0, 0))) : Kd.C Kd.bool w (some ⟨g, 0, none⟩) 2 [a, b] := c_block (enc := Value.bool) [a, b] h (by simp)
theorem bytes_of_block {w : World} {g t : Nat} {a : Int} (h : w.heap[g]? = some (.cells #[.int .u8 a] t (0, 0))) : Kd.C (Kd.int .u8) w (some ⟨g, 0, none⟩) 1 [a] := c_block (enc := Value.int .u8) [a] h (by simp)
theorem ints_kept {W : World} {g t : Nat} {a : Int} {S : Nat → Prop} (h : W.heap[g]? = some (.cells #[.int .i64 a] t (0, 0))) (hS : ¬ S g) : ∀ W', Kept W W' S → Kd.C (Kd.int .i64) W' (some ⟨g, 0, none⟩) 1 [a] := fun W' hk =>
  c_block (enc := Value.int .i64) [a] ((hk.2 g (blk_lt h) hS).trans h) (by simp)

set_option linter.unusedSimpArgs false
set_option linter.unusedVariables false
set_option maxRecDepth 100000 in
set_option maxHeartbeats 4000000 in
theorem put_any (w : World) (A : Option Addr) (c : Nat) (l : List S33) (hr : Kd.C k33 w A l.length l) (hl : l.length ≤ 4000) :
    Calls Try.prog 44 #[.slice A l.length c] w fun e w' => ∃ v : Value, e = .returned (.tuple #[v, .int .i64 (put l).2]) ∧ Kd.R (Kd.int .u8) 5 w' w.heap.size (fun _ => True) v (put l).1 ∧ Below w.heap.size w w' := by
  have HR := Aside0.mk hr
  clear hr
  go_enter Try.func44, Try.ntmps44
  go_wp2_with fail
  have HO0 := Aside0.mk (show Kd.R (Kd.int .u8) 5 w w.heap.size (fun _ => True) (.slice none 0 0) ((l.take 0).flatMap tb) from Kd.R_nil _ _ _ _ _)
  have HB0 := Aside0.mk (Below.refl w.heap.size w)
  go_loopw [4, 9] (fun v4 v9 wr => ∃ k : Nat, k ≤ l.length ∧ v9 = .int .i64 k ∧ (l.take k).any bad = false ∧ Aside0 (Kd.R (Kd.int .u8) 5 wr w.heap.size (fun _ => True) v4 ((l.take k).flatMap tb)) ∧ Aside0 (Below w.heap.size w wr)) (fun _ v9 _ => l.length - (intOf v9).toNat)
  case atStart => exact ⟨0, Nat.zero_le _, rfl, rfl, HO0, HB0⟩
  case round =>
    clear HO0 HB0
    obtain ⟨k, hk, rfl, hbad, HO, HB⟩ := hrel
    by_cases hlt : k < l.length
    · have p0 : (0 : Int) ≤ (k : Int) := Int.natCast_nonneg _
      have q0 : (k : Int) < (l.length : Int) := by omega
      obtain ⟨ad, rfl, x0, x1, x2, x3⟩ := at_T33 HR.out (k : Int) p0 q0
      rw [Int.toNat_natCast] at x0 x1 x2 x3
      have HT := Aside0.mk (take_rd l k hlt)
      have y0 := (HB.out.cell (World.block_lt_of_cell? w _ x0)).trans x0
      have y1 := (HB.out.cell (World.block_lt_of_cell? w _ x1)).trans x1
      have y2 := (HB.out.cell (World.block_lt_of_cell? w _ x2)).trans x2
      have y3 := (HB.out.cell (World.block_lt_of_cell? w _ x3)).trans x3
      clear x0 x1 x2 x3
      generalize rd_T33 l (k : Int) = t at HT y0 y1 y2 y3
      obtain ⟨t0, t1, t2, t3⟩ := t
      simp only at y0 y1 y2 y3
      obtain ⟨b6, hb6⟩ : ∃ b6, b6 = wr.heap.size := ⟨_, rfl⟩
      have HX0 : Aside0 ((wr.alloc (.cells #[.int .i64 t0, .bool t1, .int .i64 t2, .bool t3] 33)).heap[b6]? = some (.cells #[.int .i64 t0, .bool t1, .int .i64 t2, .bool t3] 33 (0, 0))) := ⟨by rw [hb6]; exact blk_new _ _⟩
      have HO0 := Aside0.mk (Kd.R_alloc HO.out (.cells #[.int .i64 t0, .bool t1, .int .i64 t2, .bool t3] 33))
      have HB0 := Aside0.mk (below_alloc HB.out (.cells #[.int .i64 t0, .bool t1, .int .i64 t2, .bool t3] 33))
      clear HO HB
      go_upto_region 5 with fail
      rw [← hb6]
      clear hb6
      generalize wr.alloc (.cells #[.int .i64 t0, .bool t1, .int .i64 t2, .bool t3] 33) = W at HX0 HO0 HB0 ⊢
      go_cut [20] from 13 to 20 (fun v20 wx => v20 = .bool (bad ⟨t0, t1, t2, t3⟩) ∧ Aside0 (Kd.R (Kd.int .u8) 5 wx w.heap.size (fun _ => True) u4 ((l.take k).flatMap tb)) ∧ Aside0 (Below w.heap.size w wx) ∧ Aside0 (wx.heap[b6]? = some (.cells #[.int .i64 t0, .bool t1, .int .i64 t2, .bool t3] 33 (0, 0))))
      case first =>
        have d1 : W.cell? ⟨b6, 1, none⟩ = some (.bool t1) := (blk_cell HX0.out 1).trans rfl
        have d2 : W.cell? ⟨b6, 2, none⟩ = some (.int .i64 t2) := (blk_cell HX0.out 2).trans rfl
        cases t1 with
        | true =>
          go_wp2
          go_meet
          case rel => exact ⟨rfl, HO0, HB0, HX0⟩
        | false =>
          cases hn : (t2 != 0) with
          | true =>
            go_wp2
            go_meet
            case rel => exact ⟨by simp [bad, hn], HO0, HB0, HX0⟩
          | false =>
            go_wp2
            go_meet
            case rel => exact ⟨by simp [bad, hn], HO0, HB0, HX0⟩
      case rest =>
        clear HX0 HO0 HB0
        obtain ⟨rfl, HO, HB, HX⟩ := hcut
        cases hb : bad ⟨t0, t1, t2, t3⟩ with
        | true =>
          go_wp2_with fail
          have hany : l.any bad = true := by
            rw [← List.take_append_drop (k + 1) l, List.any_append, HT.out, List.any_append]
            simp [hb]
          have hput : put l = ([], 1) := by unfold put; rw [if_pos hany]
          rw [hput]
          refine bodyPost_ret (results_tmp2 rfl _ _ _) rfl ?_
          exact ⟨_, rfl, Kd.R_nil _ _ _ _ _, HB.out⟩
        | false =>
          go_upto_region 7 with fail
          obtain ⟨xs, hxs⟩ : ∃ xs, xs = (l.take k).flatMap tb := ⟨_, rfl⟩
          have hxl : xs.length ≤ 68000 := by
            rw [hxs]
            have := tbs_length (l.take k)
            have := List.length_take_le k l
            omega
          rw [← hxs] at HO
          have HXS := Aside0.mk hxs
          clear hxs
          go_cut [4] from 21 to 33 (fun v4 wx => Aside0 (Kd.R (Kd.int .u8) 5 wx w.heap.size (fun _ => True) v4 ((xs ++ [b1 t1 + 2 * b1 t3]) ++ [t0].flatMap le8)) ∧ Aside0 (Below w.heap.size w wx) ∧ Aside0 (wx.heap[b6]? = some (.cells #[.int .i64 t0, .bool t1, .int .i64 t2, .bool t3] 33 (0, 0))))
          case first =>
            generalize wc = W at HO HB HX ⊢
            clear HR HT
-- REGION
            refine start_ (n := 14) (S := fun w' => w'.heap[b6]? = some (.cells #[.int .i64 t0, .bool t1, .int .i64 t2, .bool t3] 33 (0, 0))) (ds := []) #[false, false, false, false, false, false, false, false, false, false, false, false, false, false] (by kernel_rfl) rfl rfl HX.out (fun hHeld => ?_)
            replace HO := Aside0.mk (Kd.R_drew HO.out)
            replace HB := Aside0.mk (below_drew HB.out)
            replace HX := Aside0.mk (blk_drew HX.out)
            generalize W.drew = Wd at HO HB HX hHeld ⊢
            refine pure_ (i := 0) (N := (some 21)) (v := ?_) (a' := ?_) #[true, false, false, false, false, false, false, false, false, false, false, false, false, false] rfl rfl (by kernel_rfl) (fun _ _ _ h => h) (Or.inl ⟨by rfl, ?_⟩) ?_ ?_
            rotate_left
            · intro w'
              go_simp
              with_reducible rfl
            rotate_left
            · simp only [Act.put, List.setIfInBounds_toArray, List.set_cons_zero, List.set_cons_succ, i64_w, i32_w]
              rfl
            refine pure_ (i := 1) (N := (some 22)) (v := ?_) (a' := ?_) #[true, true, false, false, false, false, false, false, false, false, false, false, false, false] rfl rfl (by kernel_rfl) (fun _ _ _ h => h) (Or.inl ⟨by rfl, ?_⟩) ?_ ?_
            rotate_left
            · intro w'
              go_simp
              with_reducible rfl
            rotate_left
            · simp only [Act.put, List.setIfInBounds_toArray, List.set_cons_zero, List.set_cons_succ, i64_w, i32_w]
              rfl
            refine take_ (i := 2) (N := (some 23)) (v := ?_) (a' := ?_) #[true, true, true, false, false, false, false, false, false, false, false, false, false, false] rfl rfl (by kernel_rfl) (fun _ _ _ h => h) (Or.inl ⟨by rfl, ?_⟩) hHeld ?_ ?_
            rotate_left
            · intro w' hS
              have s0 : w'.cell? ⟨b6, 0, none⟩ = _ := (blk_cell hS 0).trans rfl
              have s1 : w'.cell? ⟨b6, 1, none⟩ = _ := (blk_cell hS 1).trans rfl
              have s2 : w'.cell? ⟨b6, 2, none⟩ = _ := (blk_cell hS 2).trans rfl
              have s3 : w'.cell? ⟨b6, 3, none⟩ = _ := (blk_cell hS 3).trans rfl
              go_simp
              with_reducible rfl
            rotate_left
            · simp only [Act.put, List.setIfInBounds_toArray, List.set_cons_zero, List.set_cons_succ, i64_w, i32_w]
              rfl
            refine pure_ (i := 3) (N := (some 24)) (v := ?_) (a' := ?_) #[true, true, true, true, false, false, false, false, false, false, false, false, false, false] rfl rfl (by kernel_rfl) (fun _ _ _ h => h) (Or.inl ⟨by rfl, ?_⟩) ?_ ?_
            rotate_left
            · intro w'
              go_simp
              with_reducible rfl
            rotate_left
            · simp only [Act.put, List.setIfInBounds_toArray, List.set_cons_zero, List.set_cons_succ, i64_w, i32_w]
              rfl
            refine take_ (i := 4) (N := (some 25)) (v := ?_) (a' := ?_) #[true, true, true, true, true, false, false, false, false, false, false, false, false, false] rfl rfl (by kernel_rfl) (fun _ _ _ h => h) (Or.inl ⟨by rfl, ?_⟩) hHeld ?_ ?_
            rotate_left
            · intro w' hS
              have s0 : w'.cell? ⟨b6, 0, none⟩ = _ := (blk_cell hS 0).trans rfl
              have s1 : w'.cell? ⟨b6, 1, none⟩ = _ := (blk_cell hS 1).trans rfl
              have s2 : w'.cell? ⟨b6, 2, none⟩ = _ := (blk_cell hS 2).trans rfl
              have s3 : w'.cell? ⟨b6, 3, none⟩ = _ := (blk_cell hS 3).trans rfl
              go_simp
              with_reducible rfl
            rotate_left
            · simp only [Act.put, List.setIfInBounds_toArray, List.set_cons_zero, List.set_cons_succ, i64_w, i32_w]
              rfl
            refine pure_ (i := 9) (N := (some 30)) (v := ?_) (a' := ?_) #[true, true, true, true, true, false, false, false, false, true, false, false, false, false] rfl rfl (by kernel_rfl) (fun _ _ _ h => h) (Or.inl ⟨by rfl, ?_⟩) ?_ ?_
            rotate_left
            · intro w'
              go_simp
              with_reducible rfl
            rotate_left
            · simp only [Act.put, List.setIfInBounds_toArray, List.set_cons_zero, List.set_cons_succ, i64_w, i32_w]
              rfl
            refine take_ (i := 10) (N := (some 31)) (v := ?_) (a' := ?_) #[true, true, true, true, true, false, false, false, false, true, true, false, false, false] rfl rfl (by kernel_rfl) (fun _ _ _ h => h) (Or.inl ⟨by rfl, ?_⟩) hHeld ?_ ?_
            rotate_left
            · intro w' hS
              have s0 : w'.cell? ⟨b6, 0, none⟩ = _ := (blk_cell hS 0).trans rfl
              have s1 : w'.cell? ⟨b6, 1, none⟩ = _ := (blk_cell hS 1).trans rfl
              have s2 : w'.cell? ⟨b6, 2, none⟩ = _ := (blk_cell hS 2).trans rfl
              have s3 : w'.cell? ⟨b6, 3, none⟩ = _ := (blk_cell hS 3).trans rfl
              go_simp
              with_reducible rfl
            rotate_left
            · simp only [Act.put, List.setIfInBounds_toArray, List.set_cons_zero, List.set_cons_succ, i64_w, i32_w]
              rfl
            refine two_ (i := 5) (j := 11) (Ni := (some 26)) (Nj := (some 32)) #[true, true, true, true, true, true, false, false, false, true, true, false, false, false] #[true, true, true, true, true, false, false, false, false, true, true, true, false, false] rfl rfl rfl rfl (by kernel_rfl) (by decide) (by decide) (fun K hK => ?_) (fun K hK => ?_)
            ·
              refine event_step (v := .slice (some ⟨Wd.heap.size, 0, none⟩) 2 2) (w1 := Wd.alloc (.cells #[.bool t1, .bool t3] 4)) (by rfl) (by first | (go_simp; done) | (go_simp; rfl)) ?_
              replace HO := Aside0.mk (Kd.R_alloc HO.out (.cells #[.bool t1, .bool t3] 4))
              replace HB := Aside0.mk (below_alloc HB.out (.cells #[.bool t1, .bool t3] 4))
              replace HX := Aside0.mk (blk_alloc HX.out (.cells #[.bool t1, .bool t3] 4))
              have H26 := Aside0.mk (blk_new Wd (.cells #[.bool t1, .bool t3] 4))
              generalize Wd.alloc (.cells #[.bool t1, .bool t3] 4) = W1 at HO HB HX H26 ⊢
              generalize Wd.heap.size = g26 at H26 ⊢
              refine hK.out _ _ HX.out (fun hHeld => ?_)
              clear hK K
              refine norm_ (a' := ?_) ?_ ?_
              rotate_left
              · show Act.put _ (some 26) _ = _
                simp only [Act.put, List.setIfInBounds_toArray, List.set_cons_zero, List.set_cons_succ, i64_w, i32_w]
                rfl
              refine two_ (i := 6) (j := 11) (Ni := (some 27)) (Nj := (some 32)) #[true, true, true, true, true, true, true, false, false, true, true, false, false, false] #[true, true, true, true, true, true, false, false, false, true, true, true, false, false] rfl rfl rfl rfl (by kernel_rfl) (by decide) (by decide) (fun K hK => ?_) (fun K hK => ?_)
              ·
                refine goes_ Try.func53 (by kernel_rfl) rfl #[.slice (some ⟨g26, 0, none⟩) 2 2] (by rfl) rfl rfl (by (try simp only [List.map_toArray, List.map_cons, List.map_nil]); first | done | rfl) ?_
                refine (tape_flags.calls 4 (some ⟨g26, 0, none⟩) 2 [t1, t3] _ W1 (bools_of_block H26.out) (Nat.le_refl _) (flags_two t1 t3)).mono ?_
                rintro e W2 ⟨rfl, hd⟩
                have hb := hd.below
                clear hd
                replace HO := Aside0.mk (Kd.R_below HO.out hb)
                replace HB := Aside0.mk (below_step HB.out hb)
                replace HX := Aside0.mk (blk_below HX.out hb)
                replace H26 := Aside0.mk (blk_below H26.out hb)
                clear hb
                refine ⟨_, rfl, ?_⟩
                refine hK.out _ _ HX.out (fun hHeld => ?_)
                clear hK K
                refine norm_ (a' := ?_) ?_ ?_
                rotate_left
                · show Act.put _ (some 27) _ = _
                  simp only [Act.put, List.setIfInBounds_toArray, List.set_cons_zero, List.set_cons_succ, i64_w, i32_w]
                  rfl
                refine two_ (i := 7) (j := 11) (Ni := (some 28)) (Nj := (some 32)) #[true, true, true, true, true, true, true, true, false, true, true, false, false, false] #[true, true, true, true, true, true, true, false, false, true, true, true, false, false] rfl rfl rfl rfl (by kernel_rfl) (by decide) (by decide) (fun K hK => ?_) (fun K hK => ?_)
                ·
                  refine event_step (v := .slice (some ⟨W2.heap.size, 0, none⟩) 1 1) (w1 := W2.alloc (.cells #[.int .u8 (b1 t1 + 2 * b1 t3)] 5)) (by rfl) (by first | (go_simp; done) | (go_simp; rfl)) ?_
                  replace HO := Aside0.mk (Kd.R_alloc HO.out (.cells #[.int .u8 (b1 t1 + 2 * b1 t3)] 5))
                  replace HB := Aside0.mk (below_alloc HB.out (.cells #[.int .u8 (b1 t1 + 2 * b1 t3)] 5))
                  replace HX := Aside0.mk (blk_alloc HX.out (.cells #[.int .u8 (b1 t1 + 2 * b1 t3)] 5))
                  replace H26 := Aside0.mk (blk_alloc H26.out (.cells #[.int .u8 (b1 t1 + 2 * b1 t3)] 5))
                  have H28 := Aside0.mk (blk_new W2 (.cells #[.int .u8 (b1 t1 + 2 * b1 t3)] 5))
                  generalize W2.alloc (.cells #[.int .u8 (b1 t1 + 2 * b1 t3)] 5) = W3 at HO HB HX H26 H28 ⊢
                  generalize W2.heap.size = g28 at H28 ⊢
                  refine hK.out _ _ HX.out (fun hHeld => ?_)
                  clear hK K
                  refine norm_ (a' := ?_) ?_ ?_
                  rotate_left
                  · show Act.put _ (some 28) _ = _
                    simp only [Act.put, List.setIfInBounds_toArray, List.set_cons_zero, List.set_cons_succ, i64_w, i32_w]
                    rfl
                  refine two_ (i := 8) (j := 11) (Ni := (some 29)) (Nj := (some 32)) #[true, true, true, true, true, true, true, true, true, true, true, false, false, false] #[true, true, true, true, true, true, true, true, false, true, true, true, false, false] rfl rfl rfl rfl (by kernel_rfl) (by decide) (by decide) (fun K hK => ?_) (fun K hK => ?_)
                  ·
                    refine Kd.R_append_rows_step (Kd.int .u8) (w0 := w) w.heap.size (by rfl) (.tmp 21) (.tmp 28) 68 5 (.int .u8 0) 1 rfl Try.underlying68 info5 rfl (by decide) (by omega) u4 xs [b1 t1 + 2 * b1 t3] (some ⟨g28, 0, none⟩) 1 1 (fun _ => True) (fun _ => False) rfl rfl HO.out (bytes_of_block H28.out) (fun _ _ h => h) (fun _ h => h.elim) (fun _ _ => trivial) HB.out HB.out.size (by omega) ?_
                    intro v29 W4 ho hb hg hat
                    have HO0 := HO
                    replace HO := Aside0.mk ho
                    replace HB := Aside0.mk hb
                    replace HX := Aside0.mk (blk_grown HX.out hg (Kd.R_ne HO0.out HX.out (by decide)))
                    clear HO0 ho hb hg hat
                    refine hK.out _ _ HX.out (fun hHeld => ?_)
                    clear hK K
                    refine norm_ (a' := ?_) ?_ ?_
                    rotate_left
                    · show Act.put _ (some 29) _ = _
                      simp only [Act.put, List.setIfInBounds_toArray, List.set_cons_zero, List.set_cons_succ, i64_w, i32_w]
                      rfl
                    refine one_ (i := 11) (N := (some 32)) #[true, true, true, true, true, true, true, true, true, true, true, true, false, false] rfl rfl (by kernel_rfl) (by decide) (fun K hK => ?_)
                    refine event_step (v := .slice (some ⟨W4.heap.size, 0, none⟩) 1 1) (w1 := W4.alloc (.cells #[.int .i64 t0] 2)) (by rfl) (by first | (go_simp; done) | (go_simp; rfl)) ?_
                    replace HO := Aside0.mk (Kd.R_alloc HO.out (.cells #[.int .i64 t0] 2))
                    replace HB := Aside0.mk (below_alloc HB.out (.cells #[.int .i64 t0] 2))
                    replace HX := Aside0.mk (blk_alloc HX.out (.cells #[.int .i64 t0] 2))
                    have H32 := Aside0.mk (blk_new W4 (.cells #[.int .i64 t0] 2))
                    generalize W4.alloc (.cells #[.int .i64 t0] 2) = W5 at HO HB HX H32 ⊢
                    generalize W4.heap.size = g32 at H32 ⊢
                    refine hK.out _ _ HX.out (fun hHeld => ?_)
                    clear hK K
                    refine norm_ (a' := ?_) ?_ ?_
                    rotate_left
                    · show Act.put _ (some 32) _ = _
                      simp only [Act.put, List.setIfInBounds_toArray, List.set_cons_zero, List.set_cons_succ, i64_w, i32_w]
                      rfl
                    refine one_ (i := 12) (N := (some 33)) #[true, true, true, true, true, true, true, true, true, true, true, true, true, false] rfl rfl (by kernel_rfl) (by decide) (fun K hK => ?_)
                    refine goes_ Try.func54 (by kernel_rfl) rfl #[v29, .slice (some ⟨g32, 0, none⟩) 1 1] (by rfl) rfl rfl (by (try simp only [List.map_toArray, List.map_cons, List.map_nil]); first | done | rfl) ?_
                    refine (tape_numbers.calls 11 (fun k => some k = v29.ownBlock) v29 _ (some ⟨g32, 0, none⟩) 1 [t0] _ w W5 HB.out (Kd.R_tight rfl HO.out) (ints_kept H32.out (Kd.R_ne HO.out H32.out (by decide))) (Nat.le_refl _) (numbers_f _ [t0] (by simp; omega) (by simp))).mono ?_
                    rintro e W6 ⟨v33, rfl, ho, hb, hk⟩
                    replace HX := Aside0.mk ((hk.2 _ (blk_lt HX.out) (Kd.R_ne HO.out HX.out (by decide))).trans HX.out)
                    replace HO := Aside0.mk (Kd.R_mono ho (fun _ _ => trivial))
                    replace HB := Aside0.mk hb
                    clear ho hb hk
                    refine ⟨_, rfl, ?_⟩
                    refine hK.out _ _ HX.out (fun hHeld => ?_)
                    clear hK K
                    refine norm_ (a' := ?_) ?_ ?_
                    rotate_left
                    · show Act.put _ (some 33) _ = _
                      simp only [Act.put, List.setIfInBounds_toArray, List.set_cons_zero, List.set_cons_succ, i64_w, i32_w]
                      rfl
                    refine pure_ (i := 13) (N := (some 4)) (v := ?_) (a' := ?_) #[true, true, true, true, true, true, true, true, true, true, true, true, true, true] rfl rfl (by kernel_rfl) (fun _ _ _ h => h) (Or.inl ⟨by rfl, ?_⟩) ?_ ?_
                    rotate_left
                    · intro w'
                      go_simp
                      with_reducible rfl
                    rotate_left
                    · simp only [Act.put, List.setIfInBounds_toArray, List.set_cons_zero, List.set_cons_succ, i64_w, i32_w]
                      rfl
                    refine done_ (by kernel_rfl) ?_
                    go_wp2
                    go_meet
                    case rel => exact ⟨HO, HB, HX⟩
                  ·
                    refine event_step (v := .slice (some ⟨W3.heap.size, 0, none⟩) 1 1) (w1 := W3.alloc (.cells #[.int .i64 t0] 2)) (by rfl) (by first | (go_simp; done) | (go_simp; rfl)) ?_
                    replace HO := Aside0.mk (Kd.R_alloc HO.out (.cells #[.int .i64 t0] 2))
                    replace HB := Aside0.mk (below_alloc HB.out (.cells #[.int .i64 t0] 2))
                    replace HX := Aside0.mk (blk_alloc HX.out (.cells #[.int .i64 t0] 2))
                    replace H26 := Aside0.mk (blk_alloc H26.out (.cells #[.int .i64 t0] 2))
                    replace H28 := Aside0.mk (blk_alloc H28.out (.cells #[.int .i64 t0] 2))
                    have H32 := Aside0.mk (blk_new W3 (.cells #[.int .i64 t0] 2))
                    generalize W3.alloc (.cells #[.int .i64 t0] 2) = W4 at HO HB HX H26 H28 H32 ⊢
                    generalize W3.heap.size = g32 at H32 ⊢
                    refine hK.out _ _ HX.out (fun hHeld => ?_)
                    clear hK K
                    refine norm_ (a' := ?_) ?_ ?_
                    rotate_left
                    · show Act.put _ (some 32) _ = _
                      simp only [Act.put, List.setIfInBounds_toArray, List.set_cons_zero, List.set_cons_succ, i64_w, i32_w]
                      rfl
                    refine one_ (i := 8) (N := (some 29)) #[true, true, true, true, true, true, true, true, true, true, true, true, false, false] rfl rfl (by kernel_rfl) (by decide) (fun K hK => ?_)
                    refine Kd.R_append_rows_step (Kd.int .u8) (w0 := w) w.heap.size (by rfl) (.tmp 21) (.tmp 28) 68 5 (.int .u8 0) 1 rfl Try.underlying68 info5 rfl (by decide) (by omega) u4 xs [b1 t1 + 2 * b1 t3] (some ⟨g28, 0, none⟩) 1 1 (fun _ => True) (fun _ => False) rfl rfl HO.out (bytes_of_block H28.out) (fun _ _ h => h) (fun _ h => h.elim) (fun _ _ => trivial) HB.out HB.out.size (by omega) ?_
                    intro v29 W5 ho hb hg hat
                    have HO0 := HO
                    replace HO := Aside0.mk ho
                    replace HB := Aside0.mk hb
                    replace HX := Aside0.mk (blk_grown HX.out hg (Kd.R_ne HO0.out HX.out (by decide)))
                    replace H32 := Aside0.mk (blk_grown H32.out hg (Kd.R_ne HO0.out H32.out (by decide)))
                    clear HO0 ho hb hg hat
                    refine hK.out _ _ HX.out (fun hHeld => ?_)
                    clear hK K
                    refine norm_ (a' := ?_) ?_ ?_
                    rotate_left
                    · show Act.put _ (some 29) _ = _
                      simp only [Act.put, List.setIfInBounds_toArray, List.set_cons_zero, List.set_cons_succ, i64_w, i32_w]
                      rfl
                    refine one_ (i := 12) (N := (some 33)) #[true, true, true, true, true, true, true, true, true, true, true, true, true, false] rfl rfl (by kernel_rfl) (by decide) (fun K hK => ?_)
                    refine goes_ Try.func54 (by kernel_rfl) rfl #[v29, .slice (some ⟨g32, 0, none⟩) 1 1] (by rfl) rfl rfl (by (try simp only [List.map_toArray, List.map_cons, List.map_nil]); first | done | rfl) ?_
                    refine (tape_numbers.calls 11 (fun k => some k = v29.ownBlock) v29 _ (some ⟨g32, 0, none⟩) 1 [t0] _ w W5 HB.out (Kd.R_tight rfl HO.out) (ints_kept H32.out (Kd.R_ne HO.out H32.out (by decide))) (Nat.le_refl _) (numbers_f _ [t0] (by simp; omega) (by simp))).mono ?_
                    rintro e W6 ⟨v33, rfl, ho, hb, hk⟩
                    replace HX := Aside0.mk ((hk.2 _ (blk_lt HX.out) (Kd.R_ne HO.out HX.out (by decide))).trans HX.out)
                    replace HO := Aside0.mk (Kd.R_mono ho (fun _ _ => trivial))
                    replace HB := Aside0.mk hb
                    clear ho hb hk
                    refine ⟨_, rfl, ?_⟩
                    refine hK.out _ _ HX.out (fun hHeld => ?_)
                    clear hK K
                    refine norm_ (a' := ?_) ?_ ?_
                    rotate_left
                    · show Act.put _ (some 33) _ = _
                      simp only [Act.put, List.setIfInBounds_toArray, List.set_cons_zero, List.set_cons_succ, i64_w, i32_w]
                      rfl
                    refine pure_ (i := 13) (N := (some 4)) (v := ?_) (a' := ?_) #[true, true, true, true, true, true, true, true, true, true, true, true, true, true] rfl rfl (by kernel_rfl) (fun _ _ _ h => h) (Or.inl ⟨by rfl, ?_⟩) ?_ ?_
                    rotate_left
                    · intro w'
                      go_simp
                      with_reducible rfl
                    rotate_left
                    · simp only [Act.put, List.setIfInBounds_toArray, List.set_cons_zero, List.set_cons_succ, i64_w, i32_w]
                      rfl
                    refine done_ (by kernel_rfl) ?_
                    go_wp2
                    go_meet
                    case rel => exact ⟨HO, HB, HX⟩
                ·
                  refine event_step (v := .slice (some ⟨W2.heap.size, 0, none⟩) 1 1) (w1 := W2.alloc (.cells #[.int .i64 t0] 2)) (by rfl) (by first | (go_simp; done) | (go_simp; rfl)) ?_
                  replace HO := Aside0.mk (Kd.R_alloc HO.out (.cells #[.int .i64 t0] 2))
                  replace HB := Aside0.mk (below_alloc HB.out (.cells #[.int .i64 t0] 2))
                  replace HX := Aside0.mk (blk_alloc HX.out (.cells #[.int .i64 t0] 2))
                  replace H26 := Aside0.mk (blk_alloc H26.out (.cells #[.int .i64 t0] 2))
                  have H32 := Aside0.mk (blk_new W2 (.cells #[.int .i64 t0] 2))
                  generalize W2.alloc (.cells #[.int .i64 t0] 2) = W3 at HO HB HX H26 H32 ⊢
                  generalize W2.heap.size = g32 at H32 ⊢
                  refine hK.out _ _ HX.out (fun hHeld => ?_)
                  clear hK K
                  refine norm_ (a' := ?_) ?_ ?_
                  rotate_left
                  · show Act.put _ (some 32) _ = _
                    simp only [Act.put, List.setIfInBounds_toArray, List.set_cons_zero, List.set_cons_succ, i64_w, i32_w]
                    rfl
                  refine one_ (i := 7) (N := (some 28)) #[true, true, true, true, true, true, true, true, false, true, true, true, false, false] rfl rfl (by kernel_rfl) (by decide) (fun K hK => ?_)
                  refine event_step (v := .slice (some ⟨W3.heap.size, 0, none⟩) 1 1) (w1 := W3.alloc (.cells #[.int .u8 (b1 t1 + 2 * b1 t3)] 5)) (by rfl) (by first | (go_simp; done) | (go_simp; rfl)) ?_
                  replace HO := Aside0.mk (Kd.R_alloc HO.out (.cells #[.int .u8 (b1 t1 + 2 * b1 t3)] 5))
                  replace HB := Aside0.mk (below_alloc HB.out (.cells #[.int .u8 (b1 t1 + 2 * b1 t3)] 5))
                  replace HX := Aside0.mk (blk_alloc HX.out (.cells #[.int .u8 (b1 t1 + 2 * b1 t3)] 5))
                  replace H26 := Aside0.mk (blk_alloc H26.out (.cells #[.int .u8 (b1 t1 + 2 * b1 t3)] 5))
                  replace H32 := Aside0.mk (blk_alloc H32.out (.cells #[.int .u8 (b1 t1 + 2 * b1 t3)] 5))
                  have H28 := Aside0.mk (blk_new W3 (.cells #[.int .u8 (b1 t1 + 2 * b1 t3)] 5))
                  generalize W3.alloc (.cells #[.int .u8 (b1 t1 + 2 * b1 t3)] 5) = W4 at HO HB HX H26 H32 H28 ⊢
                  generalize W3.heap.size = g28 at H28 ⊢
                  refine hK.out _ _ HX.out (fun hHeld => ?_)
                  clear hK K
                  refine norm_ (a' := ?_) ?_ ?_
                  rotate_left
                  · show Act.put _ (some 28) _ = _
                    simp only [Act.put, List.setIfInBounds_toArray, List.set_cons_zero, List.set_cons_succ, i64_w, i32_w]
                    rfl
                  refine one_ (i := 8) (N := (some 29)) #[true, true, true, true, true, true, true, true, true, true, true, true, false, false] rfl rfl (by kernel_rfl) (by decide) (fun K hK => ?_)
                  refine Kd.R_append_rows_step (Kd.int .u8) (w0 := w) w.heap.size (by rfl) (.tmp 21) (.tmp 28) 68 5 (.int .u8 0) 1 rfl Try.underlying68 info5 rfl (by decide) (by omega) u4 xs [b1 t1 + 2 * b1 t3] (some ⟨g28, 0, none⟩) 1 1 (fun _ => True) (fun _ => False) rfl rfl HO.out (bytes_of_block H28.out) (fun _ _ h => h) (fun _ h => h.elim) (fun _ _ => trivial) HB.out HB.out.size (by omega) ?_
                  intro v29 W5 ho hb hg hat
                  have HO0 := HO
                  replace HO := Aside0.mk ho
                  replace HB := Aside0.mk hb
                  replace HX := Aside0.mk (blk_grown HX.out hg (Kd.R_ne HO0.out HX.out (by decide)))
                  replace H32 := Aside0.mk (blk_grown H32.out hg (Kd.R_ne HO0.out H32.out (by decide)))
                  clear HO0 ho hb hg hat
                  refine hK.out _ _ HX.out (fun hHeld => ?_)
                  clear hK K
                  refine norm_ (a' := ?_) ?_ ?_
                  rotate_left
                  · show Act.put _ (some 29) _ = _
                    simp only [Act.put, List.setIfInBounds_toArray, List.set_cons_zero, List.set_cons_succ, i64_w, i32_w]
                    rfl
                  refine one_ (i := 12) (N := (some 33)) #[true, true, true, true, true, true, true, true, true, true, true, true, true, false] rfl rfl (by kernel_rfl) (by decide) (fun K hK => ?_)
                  refine goes_ Try.func54 (by kernel_rfl) rfl #[v29, .slice (some ⟨g32, 0, none⟩) 1 1] (by rfl) rfl rfl (by (try simp only [List.map_toArray, List.map_cons, List.map_nil]); first | done | rfl) ?_
                  refine (tape_numbers.calls 11 (fun k => some k = v29.ownBlock) v29 _ (some ⟨g32, 0, none⟩) 1 [t0] _ w W5 HB.out (Kd.R_tight rfl HO.out) (ints_kept H32.out (Kd.R_ne HO.out H32.out (by decide))) (Nat.le_refl _) (numbers_f _ [t0] (by simp; omega) (by simp))).mono ?_
                  rintro e W6 ⟨v33, rfl, ho, hb, hk⟩
                  replace HX := Aside0.mk ((hk.2 _ (blk_lt HX.out) (Kd.R_ne HO.out HX.out (by decide))).trans HX.out)
                  replace HO := Aside0.mk (Kd.R_mono ho (fun _ _ => trivial))
                  replace HB := Aside0.mk hb
                  clear ho hb hk
                  refine ⟨_, rfl, ?_⟩
                  refine hK.out _ _ HX.out (fun hHeld => ?_)
                  clear hK K
                  refine norm_ (a' := ?_) ?_ ?_
                  rotate_left
                  · show Act.put _ (some 33) _ = _
                    simp only [Act.put, List.setIfInBounds_toArray, List.set_cons_zero, List.set_cons_succ, i64_w, i32_w]
                    rfl
                  refine pure_ (i := 13) (N := (some 4)) (v := ?_) (a' := ?_) #[true, true, true, true, true, true, true, true, true, true, true, true, true, true] rfl rfl (by kernel_rfl) (fun _ _ _ h => h) (Or.inl ⟨by rfl, ?_⟩) ?_ ?_
                  rotate_left
                  · intro w'
                    go_simp
                    with_reducible rfl
                  rotate_left
                  · simp only [Act.put, List.setIfInBounds_toArray, List.set_cons_zero, List.set_cons_succ, i64_w, i32_w]
                    rfl
                  refine done_ (by kernel_rfl) ?_
                  go_wp2
                  go_meet
                  case rel => exact ⟨HO, HB, HX⟩
              ·
                refine event_step (v := .slice (some ⟨W1.heap.size, 0, none⟩) 1 1) (w1 := W1.alloc (.cells #[.int .i64 t0] 2)) (by rfl) (by first | (go_simp; done) | (go_simp; rfl)) ?_
                replace HO := Aside0.mk (Kd.R_alloc HO.out (.cells #[.int .i64 t0] 2))
                replace HB := Aside0.mk (below_alloc HB.out (.cells #[.int .i64 t0] 2))
                replace HX := Aside0.mk (blk_alloc HX.out (.cells #[.int .i64 t0] 2))
                replace H26 := Aside0.mk (blk_alloc H26.out (.cells #[.int .i64 t0] 2))
                have H32 := Aside0.mk (blk_new W1 (.cells #[.int .i64 t0] 2))
                generalize W1.alloc (.cells #[.int .i64 t0] 2) = W2 at HO HB HX H26 H32 ⊢
                generalize W1.heap.size = g32 at H32 ⊢
                refine hK.out _ _ HX.out (fun hHeld => ?_)
                clear hK K
                refine norm_ (a' := ?_) ?_ ?_
                rotate_left
                · show Act.put _ (some 32) _ = _
                  simp only [Act.put, List.setIfInBounds_toArray, List.set_cons_zero, List.set_cons_succ, i64_w, i32_w]
                  rfl
                refine one_ (i := 6) (N := (some 27)) #[true, true, true, true, true, true, true, false, false, true, true, true, false, false] rfl rfl (by kernel_rfl) (by decide) (fun K hK => ?_)
                refine goes_ Try.func53 (by kernel_rfl) rfl #[.slice (some ⟨g26, 0, none⟩) 2 2] (by rfl) rfl rfl (by (try simp only [List.map_toArray, List.map_cons, List.map_nil]); first | done | rfl) ?_
                refine (tape_flags.calls 4 (some ⟨g26, 0, none⟩) 2 [t1, t3] _ W2 (bools_of_block H26.out) (Nat.le_refl _) (flags_two t1 t3)).mono ?_
                rintro e W3 ⟨rfl, hd⟩
                have hb := hd.below
                clear hd
                replace HO := Aside0.mk (Kd.R_below HO.out hb)
                replace HB := Aside0.mk (below_step HB.out hb)
                replace HX := Aside0.mk (blk_below HX.out hb)
                replace H26 := Aside0.mk (blk_below H26.out hb)
                replace H32 := Aside0.mk (blk_below H32.out hb)
                clear hb
                refine ⟨_, rfl, ?_⟩
                refine hK.out _ _ HX.out (fun hHeld => ?_)
                clear hK K
                refine norm_ (a' := ?_) ?_ ?_
                rotate_left
                · show Act.put _ (some 27) _ = _
                  simp only [Act.put, List.setIfInBounds_toArray, List.set_cons_zero, List.set_cons_succ, i64_w, i32_w]
                  rfl
                refine one_ (i := 7) (N := (some 28)) #[true, true, true, true, true, true, true, true, false, true, true, true, false, false] rfl rfl (by kernel_rfl) (by decide) (fun K hK => ?_)
                refine event_step (v := .slice (some ⟨W3.heap.size, 0, none⟩) 1 1) (w1 := W3.alloc (.cells #[.int .u8 (b1 t1 + 2 * b1 t3)] 5)) (by rfl) (by first | (go_simp; done) | (go_simp; rfl)) ?_
                replace HO := Aside0.mk (Kd.R_alloc HO.out (.cells #[.int .u8 (b1 t1 + 2 * b1 t3)] 5))
                replace HB := Aside0.mk (below_alloc HB.out (.cells #[.int .u8 (b1 t1 + 2 * b1 t3)] 5))
                replace HX := Aside0.mk (blk_alloc HX.out (.cells #[.int .u8 (b1 t1 + 2 * b1 t3)] 5))
                replace H26 := Aside0.mk (blk_alloc H26.out (.cells #[.int .u8 (b1 t1 + 2 * b1 t3)] 5))
                replace H32 := Aside0.mk (blk_alloc H32.out (.cells #[.int .u8 (b1 t1 + 2 * b1 t3)] 5))
                have H28 := Aside0.mk (blk_new W3 (.cells #[.int .u8 (b1 t1 + 2 * b1 t3)] 5))
                generalize W3.alloc (.cells #[.int .u8 (b1 t1 + 2 * b1 t3)] 5) = W4 at HO HB HX H26 H32 H28 ⊢
                generalize W3.heap.size = g28 at H28 ⊢
                refine hK.out _ _ HX.out (fun hHeld => ?_)
                clear hK K
                refine norm_ (a' := ?_) ?_ ?_
                rotate_left
                · show Act.put _ (some 28) _ = _
                  simp only [Act.put, List.setIfInBounds_toArray, List.set_cons_zero, List.set_cons_succ, i64_w, i32_w]
                  rfl
                refine one_ (i := 8) (N := (some 29)) #[true, true, true, true, true, true, true, true, true, true, true, true, false, false] rfl rfl (by kernel_rfl) (by decide) (fun K hK => ?_)
                refine Kd.R_append_rows_step (Kd.int .u8) (w0 := w) w.heap.size (by rfl) (.tmp 21) (.tmp 28) 68 5 (.int .u8 0) 1 rfl Try.underlying68 info5 rfl (by decide) (by omega) u4 xs [b1 t1 + 2 * b1 t3] (some ⟨g28, 0, none⟩) 1 1 (fun _ => True) (fun _ => False) rfl rfl HO.out (bytes_of_block H28.out) (fun _ _ h => h) (fun _ h => h.elim) (fun _ _ => trivial) HB.out HB.out.size (by omega) ?_
                intro v29 W5 ho hb hg hat
                have HO0 := HO
                replace HO := Aside0.mk ho
                replace HB := Aside0.mk hb
                replace HX := Aside0.mk (blk_grown HX.out hg (Kd.R_ne HO0.out HX.out (by decide)))
                replace H32 := Aside0.mk (blk_grown H32.out hg (Kd.R_ne HO0.out H32.out (by decide)))
                clear HO0 ho hb hg hat
                refine hK.out _ _ HX.out (fun hHeld => ?_)
                clear hK K
                refine norm_ (a' := ?_) ?_ ?_
                rotate_left
                · show Act.put _ (some 29) _ = _
                  simp only [Act.put, List.setIfInBounds_toArray, List.set_cons_zero, List.set_cons_succ, i64_w, i32_w]
                  rfl
                refine one_ (i := 12) (N := (some 33)) #[true, true, true, true, true, true, true, true, true, true, true, true, true, false] rfl rfl (by kernel_rfl) (by decide) (fun K hK => ?_)
                refine goes_ Try.func54 (by kernel_rfl) rfl #[v29, .slice (some ⟨g32, 0, none⟩) 1 1] (by rfl) rfl rfl (by (try simp only [List.map_toArray, List.map_cons, List.map_nil]); first | done | rfl) ?_
                refine (tape_numbers.calls 11 (fun k => some k = v29.ownBlock) v29 _ (some ⟨g32, 0, none⟩) 1 [t0] _ w W5 HB.out (Kd.R_tight rfl HO.out) (ints_kept H32.out (Kd.R_ne HO.out H32.out (by decide))) (Nat.le_refl _) (numbers_f _ [t0] (by simp; omega) (by simp))).mono ?_
                rintro e W6 ⟨v33, rfl, ho, hb, hk⟩
                replace HX := Aside0.mk ((hk.2 _ (blk_lt HX.out) (Kd.R_ne HO.out HX.out (by decide))).trans HX.out)
                replace HO := Aside0.mk (Kd.R_mono ho (fun _ _ => trivial))
                replace HB := Aside0.mk hb
                clear ho hb hk
                refine ⟨_, rfl, ?_⟩
                refine hK.out _ _ HX.out (fun hHeld => ?_)
                clear hK K
                refine norm_ (a' := ?_) ?_ ?_
                rotate_left
                · show Act.put _ (some 33) _ = _
                  simp only [Act.put, List.setIfInBounds_toArray, List.set_cons_zero, List.set_cons_succ, i64_w, i32_w]
                  rfl
                refine pure_ (i := 13) (N := (some 4)) (v := ?_) (a' := ?_) #[true, true, true, true, true, true, true, true, true, true, true, true, true, true] rfl rfl (by kernel_rfl) (fun _ _ _ h => h) (Or.inl ⟨by rfl, ?_⟩) ?_ ?_
                rotate_left
                · intro w'
                  go_simp
                  with_reducible rfl
                rotate_left
                · simp only [Act.put, List.setIfInBounds_toArray, List.set_cons_zero, List.set_cons_succ, i64_w, i32_w]
                  rfl
                refine done_ (by kernel_rfl) ?_
                go_wp2
                go_meet
                case rel => exact ⟨HO, HB, HX⟩
            ·
              refine event_step (v := .slice (some ⟨Wd.heap.size, 0, none⟩) 1 1) (w1 := Wd.alloc (.cells #[.int .i64 t0] 2)) (by rfl) (by first | (go_simp; done) | (go_simp; rfl)) ?_
              replace HO := Aside0.mk (Kd.R_alloc HO.out (.cells #[.int .i64 t0] 2))
              replace HB := Aside0.mk (below_alloc HB.out (.cells #[.int .i64 t0] 2))
              replace HX := Aside0.mk (blk_alloc HX.out (.cells #[.int .i64 t0] 2))
              have H32 := Aside0.mk (blk_new Wd (.cells #[.int .i64 t0] 2))
              generalize Wd.alloc (.cells #[.int .i64 t0] 2) = W1 at HO HB HX H32 ⊢
              generalize Wd.heap.size = g32 at H32 ⊢
              refine hK.out _ _ HX.out (fun hHeld => ?_)
              clear hK K
              refine norm_ (a' := ?_) ?_ ?_
              rotate_left
              · show Act.put _ (some 32) _ = _
                simp only [Act.put, List.setIfInBounds_toArray, List.set_cons_zero, List.set_cons_succ, i64_w, i32_w]
                rfl
              refine one_ (i := 5) (N := (some 26)) #[true, true, true, true, true, true, false, false, false, true, true, true, false, false] rfl rfl (by kernel_rfl) (by decide) (fun K hK => ?_)
              refine event_step (v := .slice (some ⟨W1.heap.size, 0, none⟩) 2 2) (w1 := W1.alloc (.cells #[.bool t1, .bool t3] 4)) (by rfl) (by first | (go_simp; done) | (go_simp; rfl)) ?_
              replace HO := Aside0.mk (Kd.R_alloc HO.out (.cells #[.bool t1, .bool t3] 4))
              replace HB := Aside0.mk (below_alloc HB.out (.cells #[.bool t1, .bool t3] 4))
              replace HX := Aside0.mk (blk_alloc HX.out (.cells #[.bool t1, .bool t3] 4))
              replace H32 := Aside0.mk (blk_alloc H32.out (.cells #[.bool t1, .bool t3] 4))
              have H26 := Aside0.mk (blk_new W1 (.cells #[.bool t1, .bool t3] 4))
              generalize W1.alloc (.cells #[.bool t1, .bool t3] 4) = W2 at HO HB HX H32 H26 ⊢
              generalize W1.heap.size = g26 at H26 ⊢
              refine hK.out _ _ HX.out (fun hHeld => ?_)
              clear hK K
              refine norm_ (a' := ?_) ?_ ?_
              rotate_left
              · show Act.put _ (some 26) _ = _
                simp only [Act.put, List.setIfInBounds_toArray, List.set_cons_zero, List.set_cons_succ, i64_w, i32_w]
                rfl
              refine one_ (i := 6) (N := (some 27)) #[true, true, true, true, true, true, true, false, false, true, true, true, false, false] rfl rfl (by kernel_rfl) (by decide) (fun K hK => ?_)
              refine goes_ Try.func53 (by kernel_rfl) rfl #[.slice (some ⟨g26, 0, none⟩) 2 2] (by rfl) rfl rfl (by (try simp only [List.map_toArray, List.map_cons, List.map_nil]); first | done | rfl) ?_
              refine (tape_flags.calls 4 (some ⟨g26, 0, none⟩) 2 [t1, t3] _ W2 (bools_of_block H26.out) (Nat.le_refl _) (flags_two t1 t3)).mono ?_
              rintro e W3 ⟨rfl, hd⟩
              have hb := hd.below
              clear hd
              replace HO := Aside0.mk (Kd.R_below HO.out hb)
              replace HB := Aside0.mk (below_step HB.out hb)
              replace HX := Aside0.mk (blk_below HX.out hb)
              replace H32 := Aside0.mk (blk_below H32.out hb)
              replace H26 := Aside0.mk (blk_below H26.out hb)
              clear hb
              refine ⟨_, rfl, ?_⟩
              refine hK.out _ _ HX.out (fun hHeld => ?_)
              clear hK K
              refine norm_ (a' := ?_) ?_ ?_
              rotate_left
              · show Act.put _ (some 27) _ = _
                simp only [Act.put, List.setIfInBounds_toArray, List.set_cons_zero, List.set_cons_succ, i64_w, i32_w]
                rfl
              refine one_ (i := 7) (N := (some 28)) #[true, true, true, true, true, true, true, true, false, true, true, true, false, false] rfl rfl (by kernel_rfl) (by decide) (fun K hK => ?_)
              refine event_step (v := .slice (some ⟨W3.heap.size, 0, none⟩) 1 1) (w1 := W3.alloc (.cells #[.int .u8 (b1 t1 + 2 * b1 t3)] 5)) (by rfl) (by first | (go_simp; done) | (go_simp; rfl)) ?_
              replace HO := Aside0.mk (Kd.R_alloc HO.out (.cells #[.int .u8 (b1 t1 + 2 * b1 t3)] 5))
              replace HB := Aside0.mk (below_alloc HB.out (.cells #[.int .u8 (b1 t1 + 2 * b1 t3)] 5))
              replace HX := Aside0.mk (blk_alloc HX.out (.cells #[.int .u8 (b1 t1 + 2 * b1 t3)] 5))
              replace H32 := Aside0.mk (blk_alloc H32.out (.cells #[.int .u8 (b1 t1 + 2 * b1 t3)] 5))
              replace H26 := Aside0.mk (blk_alloc H26.out (.cells #[.int .u8 (b1 t1 + 2 * b1 t3)] 5))
              have H28 := Aside0.mk (blk_new W3 (.cells #[.int .u8 (b1 t1 + 2 * b1 t3)] 5))
              generalize W3.alloc (.cells #[.int .u8 (b1 t1 + 2 * b1 t3)] 5) = W4 at HO HB HX H32 H26 H28 ⊢
              generalize W3.heap.size = g28 at H28 ⊢
              refine hK.out _ _ HX.out (fun hHeld => ?_)
              clear hK K
              refine norm_ (a' := ?_) ?_ ?_
              rotate_left
              · show Act.put _ (some 28) _ = _
                simp only [Act.put, List.setIfInBounds_toArray, List.set_cons_zero, List.set_cons_succ, i64_w, i32_w]
                rfl
              refine one_ (i := 8) (N := (some 29)) #[true, true, true, true, true, true, true, true, true, true, true, true, false, false] rfl rfl (by kernel_rfl) (by decide) (fun K hK => ?_)
              refine Kd.R_append_rows_step (Kd.int .u8) (w0 := w) w.heap.size (by rfl) (.tmp 21) (.tmp 28) 68 5 (.int .u8 0) 1 rfl Try.underlying68 info5 rfl (by decide) (by omega) u4 xs [b1 t1 + 2 * b1 t3] (some ⟨g28, 0, none⟩) 1 1 (fun _ => True) (fun _ => False) rfl rfl HO.out (bytes_of_block H28.out) (fun _ _ h => h) (fun _ h => h.elim) (fun _ _ => trivial) HB.out HB.out.size (by omega) ?_
              intro v29 W5 ho hb hg hat
              have HO0 := HO
              replace HO := Aside0.mk ho
              replace HB := Aside0.mk hb
              replace HX := Aside0.mk (blk_grown HX.out hg (Kd.R_ne HO0.out HX.out (by decide)))
              replace H32 := Aside0.mk (blk_grown H32.out hg (Kd.R_ne HO0.out H32.out (by decide)))
              clear HO0 ho hb hg hat
              refine hK.out _ _ HX.out (fun hHeld => ?_)
              clear hK K
              refine norm_ (a' := ?_) ?_ ?_
              rotate_left
              · show Act.put _ (some 29) _ = _
                simp only [Act.put, List.setIfInBounds_toArray, List.set_cons_zero, List.set_cons_succ, i64_w, i32_w]
                rfl
              refine one_ (i := 12) (N := (some 33)) #[true, true, true, true, true, true, true, true, true, true, true, true, true, false] rfl rfl (by kernel_rfl) (by decide) (fun K hK => ?_)
              refine goes_ Try.func54 (by kernel_rfl) rfl #[v29, .slice (some ⟨g32, 0, none⟩) 1 1] (by rfl) rfl rfl (by (try simp only [List.map_toArray, List.map_cons, List.map_nil]); first | done | rfl) ?_
              refine (tape_numbers.calls 11 (fun k => some k = v29.ownBlock) v29 _ (some ⟨g32, 0, none⟩) 1 [t0] _ w W5 HB.out (Kd.R_tight rfl HO.out) (ints_kept H32.out (Kd.R_ne HO.out H32.out (by decide))) (Nat.le_refl _) (numbers_f _ [t0] (by simp; omega) (by simp))).mono ?_
              rintro e W6 ⟨v33, rfl, ho, hb, hk⟩
              replace HX := Aside0.mk ((hk.2 _ (blk_lt HX.out) (Kd.R_ne HO.out HX.out (by decide))).trans HX.out)
              replace HO := Aside0.mk (Kd.R_mono ho (fun _ _ => trivial))
              replace HB := Aside0.mk hb
              clear ho hb hk
              refine ⟨_, rfl, ?_⟩
              refine hK.out _ _ HX.out (fun hHeld => ?_)
              clear hK K
              refine norm_ (a' := ?_) ?_ ?_
              rotate_left
              · show Act.put _ (some 33) _ = _
                simp only [Act.put, List.setIfInBounds_toArray, List.set_cons_zero, List.set_cons_succ, i64_w, i32_w]
                rfl
              refine pure_ (i := 13) (N := (some 4)) (v := ?_) (a' := ?_) #[true, true, true, true, true, true, true, true, true, true, true, true, true, true] rfl rfl (by kernel_rfl) (fun _ _ _ h => h) (Or.inl ⟨by rfl, ?_⟩) ?_ ?_
              rotate_left
              · intro w'
                go_simp
                with_reducible rfl
              rotate_left
              · simp only [Act.put, List.setIfInBounds_toArray, List.set_cons_zero, List.set_cons_succ, i64_w, i32_w]
                rfl
              refine done_ (by kernel_rfl) ?_
              go_wp2
              go_meet
              case rel => exact ⟨HO, HB, HX⟩
-- END
          case rest =>
            clear HO HB HX
            obtain ⟨HO, HB, HX⟩ := hcut
            have hbad2 : (l.take (k + 1)).any bad = false := by
              rw [HT.out, List.any_append, hbad]
              simp [hb]
            have hsum : (l.take (k + 1)).flatMap tb = xs ++ tb ⟨t0, t1, t2, t3⟩ := by
              rw [HT.out, List.flatMap_append, ← HXS.out]
              simp
            have HS := Aside0.mk hsum
            clear hsum HT
            have d1 : wc.cell? ⟨b6, 1, none⟩ = some (.bool t1) := (blk_cell HX.out 1).trans rfl
            have d2 : wc.cell? ⟨b6, 2, none⟩ = some (.int .i64 t2) := (blk_cell HX.out 2).trans rfl
            cases t1 with
            | false =>
              go_wp2_with fail
              go_roundw
              case rel => exact ⟨k + 1, by omega, by go_num, hbad2, ⟨by rw [HS.out]; simpa [tb] using HO.out⟩, HB⟩
              case measure => simp [intOf]; omega
            | true =>
              go_wp2_with fail
              clear d1 d2
              have HO2 := Kd.R_alloc HO.out (.cells #[.int .i64 t2] 2)
              have HB2 := below_alloc HB.out (.cells #[.int .i64 t2] 2)
              have H32 := blk_new wc (.cells #[.int .i64 t2] 2)
              refine (tape_numbers.calls 11 (fun k => some k = u4.ownBlock) u4 _ (some ⟨wc.heap.size, 0, none⟩) 1 [t2] _ w _ HB2 (Kd.R_tight rfl HO2) (ints_kept H32 (Kd.R_ne HO2 H32 (by decide))) (Nat.le_refl _) (numbers_f _ [t2] (by simp [le8_length]; omega) (by simp))).mono ?_
              rintro e w5 ⟨v5, rfl, ho, hb5, _⟩
              have HO5 := Aside0.mk (Kd.R_mono (ok' := fun _ => True) ho (fun _ _ => trivial))
              have HB5 := Aside0.mk hb5
              clear ho hb5 HO2 HB2 H32 HO HB HX
              go_wp2_with fail
              go_roundw
              case rel => exact ⟨k + 1, by omega, by go_num, hbad2, ⟨by rw [HS.out]; simpa [tb] using HO5.out⟩, HB5⟩
              case measure => simp [intOf]; omega
    · have hk2 : k = l.length := by omega
      subst hk2
      have hput : put l = (l.flatMap tb, 0) := by
        unfold put
        rw [List.take_length] at hbad
        rw [if_neg (by simp [hbad])]
      rw [List.take_length] at HO
      go_wp2_with fail
      rw [hput]
      refine bodyPost_ret (results_tmp2 rfl _ _ _) rfl ?_
      exact ⟨_, rfl, HO.out, HB.out⟩
end Go.Proofs.Ytoknlaknffpigaa.Tp
