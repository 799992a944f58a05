/- The document's bytes of ticks (layer 21): the walk of the document's Put. -/
import Derived.Test.YtoknlaknffpigaaTapeBitsPlain
import Derived.Test.YtoknlaknffpigaaTapePut
import Derived.Deep.Cut
import Derived.Deep.CutRange
namespace Go.Proofs.Ytoknlaknffpigaa.Tp
open Go.RowKit Go.Proofs.YtoknlaknffpigaaW.PrintWords Go.Proofs.YtoknlaknffpigaaW.PrintLast Go.Proofs.YtoknlaknffpigaaW.PrintMore Go.Proofs.Ytoknlaknffpigaa.PTapePuts Go.Proofs.Ytoknlaknffpigaa.Tm
set_option linter.unusedVariables false
set_option linter.unusedSimpArgs false

set_option maxRecDepth 100000 in
set_option maxHeartbeats 4000000 in
theorem rput_walk (w : World) (A : Option Addr) (c : Nat) (l : List S33) (hr : Kd.C k33 w A l.length l) (hl : l.length ≤ 1000) :
    Calls Try.prog 45 #[.slice A l.length c] w fun e w' => e = .returned (.tuple #[.string (strOfNums (put l).1), .int .i64 (put l).2]) ∧ Below w.heap.size w w' := by
  have HR := Aside0.mk hr
  clear hr
  go_enter Try.func45, Try.ntmps45
  go_wp2_with fail
  have HB0 := Aside0.mk (Below.refl w.heap.size w)
  go_loopw [4, 5] (fun v4 v5 wr => ∃ k : Nat, k ≤ l.length ∧ v5 = .int .i64 k ∧ v4 = .string (strOfNums ((l.take k).flatMap tb)) ∧ (l.take k).any bad = false ∧ Aside0 (Below w.heap.size w wr)) (fun _ v5 _ => l.length - (intOf v5).toNat)
  case atStart => exact ⟨0, Nat.zero_le _, rfl, rfl, rfl, HB0⟩
  case round =>
    clear HB0
    obtain ⟨k, hk, rfl, rfl, hbad, HB⟩ := hrel
    by_cases hlt : k < l.length
    · have p0 : (0 : Int) ≤ (k : Int) := Int.natCast_nonneg _
      have q0 : (k : Int) < (l.length : Int) := by omega
      obtain ⟨ad, rfl, x0, x1, x2, x3⟩ := at_T33 HR.out (k : Int) p0 q0
      rw [Int.toNat_natCast] at x0 x1 x2 x3
      have HT := Aside0.mk (take_rd l k hlt)
      generalize rd_T33 l (k : Int) = t at HT x0 x1 x2 x3
      obtain ⟨t0, t1, t2, t3⟩ := t
      simp only at x0 x1 x2 x3
      have y1 := (HB.out.cell (World.block_lt_of_cell? w _ x1)).trans x1
      have y2 := (HB.out.cell (World.block_lt_of_cell? w _ x2)).trans x2
      obtain ⟨xs, hxs⟩ : ∃ xs, xs = (l.take k).flatMap tb := ⟨_, rfl⟩
      have hxl : xs.length ≤ 17000 := by
        rw [hxs]
        have := tbs_length (l.take k)
        have := List.length_take_le k l
        omega
      rw [← hxs]
      have HXS := Aside0.mk hxs
      clear hxs
      go_upto_region 5 with fail
      go_cut [25] from 12 to 25 (fun v25 wx => v25 = .bool (bad ⟨t0, t1, t2, t3⟩) ∧ Aside0 (Below w.heap.size w wx))
      case first =>
        cases t1 with
        | true =>
          go_wp2
          go_meet
          case rel => exact ⟨rfl, HB⟩
        | false =>
          cases hn : (t2 != 0) with
          | true =>
            go_wp2
            go_meet
            case rel => exact ⟨by simp [bad, hn], HB⟩
          | false =>
            go_wp2
            go_meet
            case rel => exact ⟨by simp [bad, hn], HB⟩
      case rest =>
        clear HB y1 y2
        obtain ⟨rfl, HB⟩ := hcut
        cases hb : bad ⟨t0, t1, t2, t3⟩ with
        | true =>
          go_wp2_with fail
          have hany : l.any bad = true := by
            rw [← List.take_append_drop (k + 1) l, List.any_append, HT.out, List.any_append]
            simp [hb]
          have hput : put l = ([], 1) := by unfold put; rw [if_pos hany]
          rw [hput]
          refine bodyPost_ret (results_tmp2 rfl _ _ _) rfl ?_
          exact ⟨rfl, HB.out⟩
        | false =>
          go_upto_region 7 with fail
          go_cut [4] from 26 to 49 (fun v4 wx => v4 = .string (strOfNums ((xs ++ [b1 t1 + 2 * b1 t3]) ++ le8 t0)) ∧ Aside0 (Below w.heap.size w wx))
          case first =>
            have HX := HB
            generalize wc = W at HX ⊢
            clear HR HT HB
            have hfl : (b1 t1 + 2 * b1 t3) % 256 = b1 t1 + 2 * b1 t3 := by cases t1 <;> cases t3 <;> rfl
            have hval0 : Value.string ((strOfNums xs ++ strOfNums [(b1 t1 + 2 * b1 t3) % 256]) ++ strOfNums (le8 t0)) = .string (strOfNums ((xs ++ [b1 t1 + 2 * b1 t3]) ++ le8 t0)) := by rw [hfl, str_app, str_app]
            have hval := Aside0.mk hval0
            clear hfl hval0
            have hz1 : (9223372036854775807 < (strOfNums xs).size + (strOfNums [(b1 t1 + 2 * b1 t3) % 256]).size) = False := eq_false (by rw [strOfNums_size, strOfNums_size, List.length_singleton]; omega)
            have hz2 : (9223372036854775807 < (strOfNums xs).size + (strOfNums [(b1 t1 + 2 * b1 t3) % 256]).size + (strOfNums (le8 t0)).size) = False := eq_false (by rw [strOfNums_size, strOfNums_size, strOfNums_size, List.length_singleton, le8_length]; omega)
-- REGION
            refine start_ (n := 25) (S := fun w' => Below w.heap.size w w') (ds := []) #[false, false, false, false, false, false, false, false, false, false, false, false, false, false, false, false, false, false, false, false, false, false, false, false, false] (by kernel_rfl) rfl rfl (below_drew HX.out) (fun hHeld => ?_)
            replace HX := Aside0.mk (below_drew HX.out)
            generalize W.drew = Wd at HX hHeld ⊢
            refine pure_ (i := 0) (N := (some 26)) (v := ?_) (a' := ?_) #[true, false, false, false, false, false, false, false, false, false, false, false, false, false, false, false, false, false, false, false, false, false, false, false, false] rfl rfl (by kernel_rfl) (fun _ _ _ h => h) (Or.inl ⟨by rfl, ?_⟩) ?_ ?_
            rotate_left
            · intro w'
              go_simp
              with_reducible rfl
            rotate_left
            · simp only [Act.put, List.setIfInBounds_toArray, List.set_cons_zero, List.set_cons_succ, i64_w, i32_w]
              rfl
            refine pure_ (i := 1) (N := (some 27)) (v := ?_) (a' := ?_) #[true, true, false, false, false, false, false, false, false, false, false, false, false, false, false, false, false, false, false, false, false, false, false, false, false] rfl rfl (by kernel_rfl) (fun _ _ _ h => h) (Or.inl ⟨by rfl, ?_⟩) ?_ ?_
            rotate_left
            · intro w'
              go_simp
              with_reducible rfl
            rotate_left
            · simp only [Act.put, List.setIfInBounds_toArray, List.set_cons_zero, List.set_cons_succ, i64_w, i32_w]
              rfl
            refine pure_ (i := 2) (N := (some 28)) (v := ?_) (a' := ?_) #[true, true, true, false, false, false, false, false, false, false, false, false, false, false, false, false, false, false, false, false, false, false, false, false, false] rfl rfl (by kernel_rfl) (fun _ _ _ h => h) (Or.inl ⟨by rfl, ?_⟩) ?_ ?_
            rotate_left
            · intro w'
              go_simp
              with_reducible rfl
            rotate_left
            · simp only [Act.put, List.setIfInBounds_toArray, List.set_cons_zero, List.set_cons_succ, i64_w, i32_w]
              rfl
            refine pure_ (i := 3) (N := (some 29)) (v := ?_) (a' := ?_) #[true, true, true, true, false, false, false, false, false, false, false, false, false, false, false, false, false, false, false, false, false, false, false, false, false] rfl rfl (by kernel_rfl) (fun _ _ _ h => h) (Or.inl ⟨by rfl, ?_⟩) ?_ ?_
            rotate_left
            · intro w'
              go_simp
              with_reducible rfl
            rotate_left
            · simp only [Act.put, List.setIfInBounds_toArray, List.set_cons_zero, List.set_cons_succ, i64_w, i32_w]
              rfl
            refine pure_ (i := 4) (N := (some 30)) (v := ?_) (a' := ?_) #[true, true, true, true, true, false, false, false, false, false, false, false, false, false, false, false, false, false, false, false, false, false, false, false, false] rfl rfl (by kernel_rfl) (fun _ _ _ h => h) (Or.inl ⟨by rfl, ?_⟩) ?_ ?_
            rotate_left
            · intro w'
              go_simp
              with_reducible rfl
            rotate_left
            · simp only [Act.put, List.setIfInBounds_toArray, List.set_cons_zero, List.set_cons_succ, i64_w, i32_w]
              rfl
            refine take_ (i := 5) (N := (some 31)) (v := ?_) (a' := ?_) #[true, true, true, true, true, true, false, false, false, false, false, false, false, false, false, false, false, false, false, false, false, false, false, false, false] rfl rfl (by kernel_rfl) (fun _ _ _ h => h) (Or.inl ⟨by rfl, ?_⟩) hHeld ?_ ?_
            rotate_left
            · intro w' hS
              have s0 := (hS.cell (World.block_lt_of_cell? w _ x0)).trans x0
              have s1 := (hS.cell (World.block_lt_of_cell? w _ x1)).trans x1
              have s3 := (hS.cell (World.block_lt_of_cell? w _ x3)).trans x3
              go_simp
              with_reducible rfl
            rotate_left
            · simp only [Act.put, List.setIfInBounds_toArray, List.set_cons_zero, List.set_cons_succ, i64_w, i32_w]
              rfl
            refine pure_ (i := 7) (N := (some 33)) (v := ?_) (a' := ?_) #[true, true, true, true, true, true, false, true, false, false, false, false, false, false, false, false, false, false, false, false, false, false, false, false, false] rfl rfl (by kernel_rfl) (fun _ _ _ h => h) (Or.inl ⟨by rfl, ?_⟩) ?_ ?_
            rotate_left
            · intro w'
              go_simp
              with_reducible rfl
            rotate_left
            · simp only [Act.put, List.setIfInBounds_toArray, List.set_cons_zero, List.set_cons_succ, i64_w, i32_w]
              rfl
            refine pure_ (i := 8) (N := (some 34)) (v := ?_) (a' := ?_) #[true, true, true, true, true, true, false, true, true, false, false, false, false, false, false, false, false, false, false, false, false, false, false, false, false] rfl rfl (by kernel_rfl) (fun _ _ _ h => h) (Or.inl ⟨by rfl, ?_⟩) ?_ ?_
            rotate_left
            · intro w'
              go_simp
              with_reducible rfl
            rotate_left
            · simp only [Act.put, List.setIfInBounds_toArray, List.set_cons_zero, List.set_cons_succ, i64_w, i32_w]
              rfl
            refine pure_ (i := 9) (N := (some 35)) (v := ?_) (a' := ?_) #[true, true, true, true, true, true, false, true, true, true, false, false, false, false, false, false, false, false, false, false, false, false, false, false, false] rfl rfl (by kernel_rfl) (fun _ _ _ h => h) (Or.inl ⟨by rfl, ?_⟩) ?_ ?_
            rotate_left
            · intro w'
              go_simp
              with_reducible rfl
            rotate_left
            · simp only [Act.put, List.setIfInBounds_toArray, List.set_cons_zero, List.set_cons_succ, i64_w, i32_w]
              rfl
            refine pure_ (i := 10) (N := (some 36)) (v := ?_) (a' := ?_) #[true, true, true, true, true, true, false, true, true, true, true, false, false, false, false, false, false, false, false, false, false, false, false, false, false] rfl rfl (by kernel_rfl) (fun _ _ _ h => h) (Or.inl ⟨by rfl, ?_⟩) ?_ ?_
            rotate_left
            · intro w'
              go_simp
              with_reducible rfl
            rotate_left
            · simp only [Act.put, List.setIfInBounds_toArray, List.set_cons_zero, List.set_cons_succ, i64_w, i32_w]
              rfl
            refine take_ (i := 11) (N := (some 37)) (v := ?_) (a' := ?_) #[true, true, true, true, true, true, false, true, true, true, true, true, false, false, false, false, false, false, false, false, false, false, false, false, false] rfl rfl (by kernel_rfl) (fun _ _ _ h => h) (Or.inl ⟨by rfl, ?_⟩) hHeld ?_ ?_
            rotate_left
            · intro w' hS
              have s0 := (hS.cell (World.block_lt_of_cell? w _ x0)).trans x0
              have s1 := (hS.cell (World.block_lt_of_cell? w _ x1)).trans x1
              have s3 := (hS.cell (World.block_lt_of_cell? w _ x3)).trans x3
              go_simp
              with_reducible rfl
            rotate_left
            · simp only [Act.put, List.setIfInBounds_toArray, List.set_cons_zero, List.set_cons_succ, i64_w, i32_w]
              rfl
            refine pure_ (i := 17) (N := (some 43)) (v := ?_) (a' := ?_) #[true, true, true, true, true, true, false, true, true, true, true, true, false, false, false, false, false, true, false, false, false, false, false, false, false] rfl rfl (by kernel_rfl) (fun _ _ _ h => h) (Or.inl ⟨by rfl, ?_⟩) ?_ ?_
            rotate_left
            · intro w'
              go_simp
              with_reducible rfl
            rotate_left
            · simp only [Act.put, List.setIfInBounds_toArray, List.set_cons_zero, List.set_cons_succ, i64_w, i32_w]
              rfl
            refine pure_ (i := 18) (N := (some 44)) (v := ?_) (a' := ?_) #[true, true, true, true, true, true, false, true, true, true, true, true, false, false, false, false, false, true, true, false, false, false, false, false, false] rfl rfl (by kernel_rfl) (fun _ _ _ h => h) (Or.inl ⟨by rfl, ?_⟩) ?_ ?_
            rotate_left
            · intro w'
              go_simp
              with_reducible rfl
            rotate_left
            · simp only [Act.put, List.setIfInBounds_toArray, List.set_cons_zero, List.set_cons_succ, i64_w, i32_w]
              rfl
            refine pure_ (i := 19) (N := (some 45)) (v := ?_) (a' := ?_) #[true, true, true, true, true, true, false, true, true, true, true, true, false, false, false, false, false, true, true, true, false, false, false, false, false] rfl rfl (by kernel_rfl) (fun _ _ _ h => h) (Or.inl ⟨by rfl, ?_⟩) ?_ ?_
            rotate_left
            · intro w'
              go_simp
              with_reducible rfl
            rotate_left
            · simp only [Act.put, List.setIfInBounds_toArray, List.set_cons_zero, List.set_cons_succ, i64_w, i32_w]
              rfl
            refine pure_ (i := 20) (N := (some 46)) (v := ?_) (a' := ?_) #[true, true, true, true, true, true, false, true, true, true, true, true, false, false, false, false, false, true, true, true, true, false, false, false, false] rfl rfl (by kernel_rfl) (fun _ _ _ h => h) (Or.inl ⟨by rfl, ?_⟩) ?_ ?_
            rotate_left
            · intro w'
              go_simp
              with_reducible rfl
            rotate_left
            · simp only [Act.put, List.setIfInBounds_toArray, List.set_cons_zero, List.set_cons_succ, i64_w, i32_w]
              rfl
            refine take_ (i := 21) (N := (some 47)) (v := ?_) (a' := ?_) #[true, true, true, true, true, true, false, true, true, true, true, true, false, false, false, false, false, true, true, true, true, true, false, false, false] rfl rfl (by kernel_rfl) (fun _ _ _ h => h) (Or.inl ⟨by rfl, ?_⟩) hHeld ?_ ?_
            rotate_left
            · intro w' hS
              have s0 := (hS.cell (World.block_lt_of_cell? w _ x0)).trans x0
              have s1 := (hS.cell (World.block_lt_of_cell? w _ x1)).trans x1
              have s3 := (hS.cell (World.block_lt_of_cell? w _ x3)).trans x3
              go_simp
              with_reducible rfl
            rotate_left
            · simp only [Act.put, List.setIfInBounds_toArray, List.set_cons_zero, List.set_cons_succ, i64_w, i32_w]
              rfl
            refine one_ (i := 6) (N := (some 32)) #[true, true, true, true, true, true, true, true, true, true, true, true, false, false, false, false, false, true, true, true, true, true, false, false, false] rfl rfl (by kernel_rfl) (by decide) (fun K hK => ?_)
            refine goes_ Try.func55 (by kernel_rfl) rfl #[.int .u8 1, .bool t1] (by rfl) rfl rfl (by (try simp only [List.map_toArray, List.map_cons, List.map_nil]); first | done | rfl) ?_
            refine (aneroidref21_bit.calls 1 t1 _ Wd (bit_one t1)).mono ?_
            rintro e W1 ⟨rfl, hd⟩
            have hb5 := hd.below
            clear hd
            replace HX := Aside0.mk (below_step HX.out hb5)
            clear hb5
            refine ⟨_, rfl, ?_⟩
            refine hK.out _ _ HX.out (fun hHeld => ?_)
            clear hK K
            refine norm_ (a' := ?_) ?_ ?_
            rotate_left
            · show Act.put _ (some 32) _ = _
              simp only [Act.put, List.setIfInBounds_toArray, List.set_cons_zero, List.set_cons_succ, i64_w, i32_w]
              rfl
            refine one_ (i := 12) (N := (some 38)) #[true, true, true, true, true, true, true, true, true, true, true, true, true, false, false, false, false, true, true, true, true, true, false, false, false] rfl rfl (by kernel_rfl) (by decide) (fun K hK => ?_)
            refine goes_ Try.func55 (by kernel_rfl) rfl #[.int .u8 2, .bool t3] (by rfl) rfl rfl (by (try simp only [List.map_toArray, List.map_cons, List.map_nil]); first | done | rfl) ?_
            refine (aneroidref21_bit.calls 2 t3 _ W1 (bit_two t3)).mono ?_
            rintro e W2 ⟨rfl, hd⟩
            have hb5 := hd.below
            clear hd
            replace HX := Aside0.mk (below_step HX.out hb5)
            clear hb5
            refine ⟨_, rfl, ?_⟩
            refine hK.out _ _ HX.out (fun hHeld => ?_)
            clear hK K
            refine norm_ (a' := ?_) ?_ ?_
            rotate_left
            · show Act.put _ (some 38) _ = _
              simp only [Act.put, List.setIfInBounds_toArray, List.set_cons_zero, List.set_cons_succ, i64_w, i32_w]
              rfl
            refine pure_ (i := 13) (N := (some 39)) (v := ?_) (a' := ?_) #[true, true, true, true, true, true, true, true, true, true, true, true, true, true, false, false, false, true, true, true, true, true, false, false, false] rfl rfl (by kernel_rfl) (fun _ _ _ h => h) (Or.inl ⟨by rfl, ?_⟩) ?_ ?_
            rotate_left
            · intro w'
              go_simp
              with_reducible rfl
            rotate_left
            · simp only [Act.put, List.setIfInBounds_toArray, List.set_cons_zero, List.set_cons_succ, i64_w, i32_w]
              rfl
            refine two_ (i := 14) (j := 22) (Ni := (some 40)) (Nj := (some 48)) #[true, true, true, true, true, true, true, true, true, true, true, true, true, true, true, false, false, true, true, true, true, true, false, false, false] #[true, true, true, true, true, true, true, true, true, true, true, true, true, true, false, false, false, true, true, true, true, true, true, false, false] rfl rfl rfl rfl (by kernel_rfl) (by decide) (by decide) (fun K hK => ?_) (fun K hK => ?_)
            ·
              refine event_step (v := .slice (some ⟨W2.heap.size, 0, none⟩) 1 1) (w1 := W2.alloc (.cells #[.int .u8 ((b1 t1 + 2 * b1 t3) % 256)] 5)) (by rfl) (by first | (go_simp; done) | (go_simp; rfl)) ?_
              replace HX := Aside0.mk (below_alloc HX.out (.cells #[.int .u8 ((b1 t1 + 2 * b1 t3) % 256)] 5))
              have H40 := Aside0.mk (blk_new W2 (.cells #[.int .u8 ((b1 t1 + 2 * b1 t3) % 256)] 5))
              generalize W2.alloc (.cells #[.int .u8 ((b1 t1 + 2 * b1 t3) % 256)] 5) = W3 at HX H40 ⊢
              generalize W2.heap.size = g40 at H40 ⊢
              refine hK.out _ _ HX.out (fun hHeld => ?_)
              clear hK K
              refine norm_ (a' := ?_) ?_ ?_
              rotate_left
              · show Act.put _ (some 40) _ = _
                simp only [Act.put, List.setIfInBounds_toArray, List.set_cons_zero, List.set_cons_succ, i64_w, i32_w]
                rfl
              refine two_ (i := 15) (j := 22) (Ni := (some 41)) (Nj := (some 48)) #[true, true, true, true, true, true, true, true, true, true, true, true, true, true, true, true, false, true, true, true, true, true, false, false, false] #[true, true, true, true, true, true, true, true, true, true, true, true, true, true, true, false, false, true, true, true, true, true, true, false, false] rfl rfl rfl rfl (by kernel_rfl) (by decide) (by decide) (fun K hK => ?_) (fun K hK => ?_)
              ·
                have hcv := Kd.C_string (P := Try.prog) (n := 1) (c := 1) Try.underlying68 Try.underlying5 Try.underlying9 (bytes_of_block H40.out)
                refine event_step (v := .string (strOfNums [((b1 t1 + 2 * b1 t3) % 256)])) (w1 := W3) (by rfl) (by first | (go_simp; done) | (go_simp; rfl)) ?_
                clear hcv H40
                refine hK.out _ _ HX.out (fun hHeld => ?_)
                clear hK K
                refine norm_ (a' := ?_) ?_ ?_
                rotate_left
                · show Act.put _ (some 41) _ = _
                  simp only [Act.put, List.setIfInBounds_toArray, List.set_cons_zero, List.set_cons_succ, i64_w, i32_w]
                  rfl
                refine pure_ (i := 16) (N := (some 42)) (v := ?_) (a' := ?_) #[true, true, true, true, true, true, true, true, true, true, true, true, true, true, true, true, true, true, true, true, true, true, false, false, false] rfl rfl (by kernel_rfl) (fun _ _ _ h => h) (Or.inl ⟨by rfl, ?_⟩) ?_ ?_
                rotate_left
                · intro w'
                  go_simp
                  with_reducible rfl
                rotate_left
                · simp only [Act.put, List.setIfInBounds_toArray, List.set_cons_zero, List.set_cons_succ, i64_w, i32_w]
                  rfl
                refine one_ (i := 22) (N := (some 48)) #[true, true, true, true, true, true, true, true, true, true, true, true, true, true, true, true, true, true, true, true, true, true, true, false, false] rfl rfl (by kernel_rfl) (by decide) (fun K hK => ?_)
                refine goes_ Try.func56 (by kernel_rfl) rfl #[.int .i64 t0] (by rfl) rfl rfl (by (try simp only [List.map_toArray, List.map_cons, List.map_nil]); first | done | rfl) ?_
                refine (aneroidref21_number.calls 9 t0 _ W3 (rnumber_f 0 t0)).mono ?_
                rintro e W4 ⟨rfl, hb5⟩
                replace HX := Aside0.mk (below_step HX.out hb5)
                clear hb5
                refine ⟨_, rfl, ?_⟩
                refine hK.out _ _ HX.out (fun hHeld => ?_)
                clear hK K
                refine norm_ (a' := ?_) ?_ ?_
                rotate_left
                · show Act.put _ (some 48) _ = _
                  simp only [Act.put, List.setIfInBounds_toArray, List.set_cons_zero, List.set_cons_succ, i64_w, i32_w]
                  rfl
                refine pure_ (i := 23) (N := (some 49)) (v := ?_) (a' := ?_) #[true, true, true, true, true, true, true, true, true, true, true, true, true, true, true, true, true, true, true, true, true, true, true, true, false] rfl rfl (by kernel_rfl) (fun _ _ _ h => h) (Or.inl ⟨by rfl, ?_⟩) ?_ ?_
                rotate_left
                · intro w'
                  go_simp
                  with_reducible rfl
                rotate_left
                · simp only [Act.put, List.setIfInBounds_toArray, List.set_cons_zero, List.set_cons_succ, i64_w, i32_w]
                  rfl
                refine pure_ (i := 24) (N := (some 4)) (v := ?_) (a' := ?_) #[true, true, true, true, true, true, true, true, true, true, true, true, true, true, true, true, true, true, true, true, true, true, true, true, true] rfl rfl (by kernel_rfl) (fun _ _ _ h => h) (Or.inl ⟨by rfl, ?_⟩) ?_ ?_
                rotate_left
                · intro w'
                  go_simp
                  with_reducible rfl
                rotate_left
                · simp only [Act.put, List.setIfInBounds_toArray, List.set_cons_zero, List.set_cons_succ, i64_w, i32_w]
                  rfl
                refine done_ (by kernel_rfl) ?_
                go_wp2
                go_meet
                case rel => exact ⟨hval.out, HX⟩
              ·
                refine goes_ Try.func56 (by kernel_rfl) rfl #[.int .i64 t0] (by rfl) rfl rfl (by (try simp only [List.map_toArray, List.map_cons, List.map_nil]); first | done | rfl) ?_
                refine (aneroidref21_number.calls 9 t0 _ W3 (rnumber_f 0 t0)).mono ?_
                rintro e W4 ⟨rfl, hb5⟩
                replace HX := Aside0.mk (below_step HX.out hb5)
                replace H40 := Aside0.mk (blk_below H40.out hb5)
                clear hb5
                refine ⟨_, rfl, ?_⟩
                refine hK.out _ _ HX.out (fun hHeld => ?_)
                clear hK K
                refine norm_ (a' := ?_) ?_ ?_
                rotate_left
                · show Act.put _ (some 48) _ = _
                  simp only [Act.put, List.setIfInBounds_toArray, List.set_cons_zero, List.set_cons_succ, i64_w, i32_w]
                  rfl
                refine one_ (i := 15) (N := (some 41)) #[true, true, true, true, true, true, true, true, true, true, true, true, true, true, true, true, false, true, true, true, true, true, true, false, false] rfl rfl (by kernel_rfl) (by decide) (fun K hK => ?_)
                have hcv := Kd.C_string (P := Try.prog) (n := 1) (c := 1) Try.underlying68 Try.underlying5 Try.underlying9 (bytes_of_block H40.out)
                refine event_step (v := .string (strOfNums [((b1 t1 + 2 * b1 t3) % 256)])) (w1 := W4) (by rfl) (by first | (go_simp; done) | (go_simp; rfl)) ?_
                clear hcv H40
                refine hK.out _ _ HX.out (fun hHeld => ?_)
                clear hK K
                refine norm_ (a' := ?_) ?_ ?_
                rotate_left
                · show Act.put _ (some 41) _ = _
                  simp only [Act.put, List.setIfInBounds_toArray, List.set_cons_zero, List.set_cons_succ, i64_w, i32_w]
                  rfl
                refine pure_ (i := 16) (N := (some 42)) (v := ?_) (a' := ?_) #[true, true, true, true, true, true, true, true, true, true, true, true, true, true, true, true, true, true, true, true, true, true, true, false, false] rfl rfl (by kernel_rfl) (fun _ _ _ h => h) (Or.inl ⟨by rfl, ?_⟩) ?_ ?_
                rotate_left
                · intro w'
                  go_simp
                  with_reducible rfl
                rotate_left
                · simp only [Act.put, List.setIfInBounds_toArray, List.set_cons_zero, List.set_cons_succ, i64_w, i32_w]
                  rfl
                refine pure_ (i := 23) (N := (some 49)) (v := ?_) (a' := ?_) #[true, true, true, true, true, true, true, true, true, true, true, true, true, true, true, true, true, true, true, true, true, true, true, true, false] rfl rfl (by kernel_rfl) (fun _ _ _ h => h) (Or.inl ⟨by rfl, ?_⟩) ?_ ?_
                rotate_left
                · intro w'
                  go_simp
                  with_reducible rfl
                rotate_left
                · simp only [Act.put, List.setIfInBounds_toArray, List.set_cons_zero, List.set_cons_succ, i64_w, i32_w]
                  rfl
                refine pure_ (i := 24) (N := (some 4)) (v := ?_) (a' := ?_) #[true, true, true, true, true, true, true, true, true, true, true, true, true, true, true, true, true, true, true, true, true, true, true, true, true] rfl rfl (by kernel_rfl) (fun _ _ _ h => h) (Or.inl ⟨by rfl, ?_⟩) ?_ ?_
                rotate_left
                · intro w'
                  go_simp
                  with_reducible rfl
                rotate_left
                · simp only [Act.put, List.setIfInBounds_toArray, List.set_cons_zero, List.set_cons_succ, i64_w, i32_w]
                  rfl
                refine done_ (by kernel_rfl) ?_
                go_wp2
                go_meet
                case rel => exact ⟨hval.out, HX⟩
            ·
              refine goes_ Try.func56 (by kernel_rfl) rfl #[.int .i64 t0] (by rfl) rfl rfl (by (try simp only [List.map_toArray, List.map_cons, List.map_nil]); first | done | rfl) ?_
              refine (aneroidref21_number.calls 9 t0 _ W2 (rnumber_f 0 t0)).mono ?_
              rintro e W3 ⟨rfl, hb5⟩
              replace HX := Aside0.mk (below_step HX.out hb5)
              clear hb5
              refine ⟨_, rfl, ?_⟩
              refine hK.out _ _ HX.out (fun hHeld => ?_)
              clear hK K
              refine norm_ (a' := ?_) ?_ ?_
              rotate_left
              · show Act.put _ (some 48) _ = _
                simp only [Act.put, List.setIfInBounds_toArray, List.set_cons_zero, List.set_cons_succ, i64_w, i32_w]
                rfl
              refine one_ (i := 14) (N := (some 40)) #[true, true, true, true, true, true, true, true, true, true, true, true, true, true, true, false, false, true, true, true, true, true, true, false, false] rfl rfl (by kernel_rfl) (by decide) (fun K hK => ?_)
              refine event_step (v := .slice (some ⟨W3.heap.size, 0, none⟩) 1 1) (w1 := W3.alloc (.cells #[.int .u8 ((b1 t1 + 2 * b1 t3) % 256)] 5)) (by rfl) (by first | (go_simp; done) | (go_simp; rfl)) ?_
              replace HX := Aside0.mk (below_alloc HX.out (.cells #[.int .u8 ((b1 t1 + 2 * b1 t3) % 256)] 5))
              have H40 := Aside0.mk (blk_new W3 (.cells #[.int .u8 ((b1 t1 + 2 * b1 t3) % 256)] 5))
              generalize W3.alloc (.cells #[.int .u8 ((b1 t1 + 2 * b1 t3) % 256)] 5) = W4 at HX H40 ⊢
              generalize W3.heap.size = g40 at H40 ⊢
              refine hK.out _ _ HX.out (fun hHeld => ?_)
              clear hK K
              refine norm_ (a' := ?_) ?_ ?_
              rotate_left
              · show Act.put _ (some 40) _ = _
                simp only [Act.put, List.setIfInBounds_toArray, List.set_cons_zero, List.set_cons_succ, i64_w, i32_w]
                rfl
              refine one_ (i := 15) (N := (some 41)) #[true, true, true, true, true, true, true, true, true, true, true, true, true, true, true, true, false, true, true, true, true, true, true, false, false] rfl rfl (by kernel_rfl) (by decide) (fun K hK => ?_)
              have hcv := Kd.C_string (P := Try.prog) (n := 1) (c := 1) Try.underlying68 Try.underlying5 Try.underlying9 (bytes_of_block H40.out)
              refine event_step (v := .string (strOfNums [((b1 t1 + 2 * b1 t3) % 256)])) (w1 := W4) (by rfl) (by first | (go_simp; done) | (go_simp; rfl)) ?_
              clear hcv H40
              refine hK.out _ _ HX.out (fun hHeld => ?_)
              clear hK K
              refine norm_ (a' := ?_) ?_ ?_
              rotate_left
              · show Act.put _ (some 41) _ = _
                simp only [Act.put, List.setIfInBounds_toArray, List.set_cons_zero, List.set_cons_succ, i64_w, i32_w]
                rfl
              refine pure_ (i := 16) (N := (some 42)) (v := ?_) (a' := ?_) #[true, true, true, true, true, true, true, true, true, true, true, true, true, true, true, true, true, true, true, true, true, true, true, false, false] rfl rfl (by kernel_rfl) (fun _ _ _ h => h) (Or.inl ⟨by rfl, ?_⟩) ?_ ?_
              rotate_left
              · intro w'
                go_simp
                with_reducible rfl
              rotate_left
              · simp only [Act.put, List.setIfInBounds_toArray, List.set_cons_zero, List.set_cons_succ, i64_w, i32_w]
                rfl
              refine pure_ (i := 23) (N := (some 49)) (v := ?_) (a' := ?_) #[true, true, true, true, true, true, true, true, true, true, true, true, true, true, true, true, true, true, true, true, true, true, true, true, false] rfl rfl (by kernel_rfl) (fun _ _ _ h => h) (Or.inl ⟨by rfl, ?_⟩) ?_ ?_
              rotate_left
              · intro w'
                go_simp
                with_reducible rfl
              rotate_left
              · simp only [Act.put, List.setIfInBounds_toArray, List.set_cons_zero, List.set_cons_succ, i64_w, i32_w]
                rfl
              refine pure_ (i := 24) (N := (some 4)) (v := ?_) (a' := ?_) #[true, true, true, true, true, true, true, true, true, true, true, true, true, true, true, true, true, true, true, true, true, true, true, true, true] rfl rfl (by kernel_rfl) (fun _ _ _ h => h) (Or.inl ⟨by rfl, ?_⟩) ?_ ?_
              rotate_left
              · intro w'
                go_simp
                with_reducible rfl
              rotate_left
              · simp only [Act.put, List.setIfInBounds_toArray, List.set_cons_zero, List.set_cons_succ, i64_w, i32_w]
                rfl
              refine done_ (by kernel_rfl) ?_
              go_wp2
              go_meet
              case rel => exact ⟨hval.out, HX⟩
-- END
          case rest =>
            clear HB
            obtain ⟨rfl, HB⟩ := hcut
            have hbad2 : (l.take (k + 1)).any bad = false := by
              rw [HT.out, List.any_append, hbad]
              simp [hb]
            have hsum : (l.take (k + 1)).flatMap tb = xs ++ tb ⟨t0, t1, t2, t3⟩ := by
              rw [HT.out, List.flatMap_append, ← HXS.out]
              simp
            have HS := Aside0.mk hsum
            clear hsum HT
            have d1 := (HB.out.cell (World.block_lt_of_cell? w _ x1)).trans x1
            have d2 := (HB.out.cell (World.block_lt_of_cell? w _ x2)).trans x2
            clear x0 x1 x2 x3
            obtain ⟨zs, hzs⟩ : ∃ zs, zs = xs ++ [b1 t1 + 2 * b1 t3] ++ le8 t0 := ⟨_, rfl⟩
            rw [← hzs]
            have hzl : zs.length ≤ 20000 := by rw [hzs]; simp [le8_length]; omega
            have HZ := Aside0.mk hzs
            clear hzs
            cases t1 with
            | false =>
              go_wp2_with fail
              go_roundw
              case rel => exact ⟨k + 1, by omega, by go_num, by rw [HS.out, HZ.out]; simp [tb], hbad2, HB⟩
              case measure => simp [intOf]; omega
            | true =>
              have hz3 : (9223372036854775807 < (strOfNums zs).size + (strOfNums (le8 t2)).size) = False := eq_false (by rw [strOfNums_size, strOfNums_size, le8_length]; omega)
              go_wp2_with fail
              refine (aneroidref21_number.calls 9 t2 _ _ (rnumber_f 0 t2)).mono ?_
              rintro e w5 ⟨rfl, hb5⟩
              have HB5 := Aside0.mk (below_step HB.out hb5)
              clear hb5 HB
              go_wp2_with fail
              go_roundw
              case rel => exact ⟨k + 1, by omega, by go_num, by rw [HS.out, HZ.out, str_app]; simp [tb], hbad2, HB5⟩
              case measure => simp [intOf]; omega
    · have hk2 : k = l.length := by omega
      subst hk2
      have hput : put l = (l.flatMap tb, 0) := by
        unfold put
        rw [List.take_length] at hbad
        rw [if_neg (by simp [hbad])]
      rw [List.take_length]
      go_wp2_with fail
      rw [hput]
      refine bodyPost_ret (results_tmp2 rfl _ _ _) rfl ?_
      exact ⟨rfl, HB.out⟩
end Go.Proofs.Ytoknlaknffpigaa.Tp
