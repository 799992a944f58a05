/- What the document's answer of layer 21 computes, in plain numbers: ticks of bytes. -/
import Derived.Test.YtoknlaknffpigaaTapePlain
import Derived.Test.YtoknlaknffpigaaTapeRefGet
namespace Go.Proofs.Ytoknlaknffpigaa.Tp
open Go.RowKit Go.Proofs.YtoknlaknffpigaaW.PrintWords Go.Proofs.YtoknlaknffpigaaW.PrintLast Go.Proofs.YtoknlaknffpigaaW.PrintMore Go.Proofs.Ytoknlaknffpigaa.PTapePuts Go.Proofs.Ytoknlaknffpigaa.Tm

theorem rd_drop (b : List Int) (n i : Nat) : rd (b.drop n) (i : Int) = rd b ((n + i : Nat) : Int) := by
  unfold rd
  rw [Int.toNat_natCast, Int.toNat_natCast, List.getD_eq_getElem?_getD, List.getD_eq_getElem?_getD, List.getElem?_drop]

theorem read_step (k : Nat) (b : List Int) (hb : Bytes b) (at_ i : Nat) (acc : Int) (hl : b.length ≤ 100000) (hat : at_ + i < b.length) (h0 : 0 ≤ acc) (h1 : acc < 72057594037927936) (hi : i < 8) :
    aneroidref21_read.l0 (k + 1) (strOfNums b) (at_ : Int) acc (i : Int) = aneroidref21_read.l0 k (strOfNums b) (at_ : Int) (256 * acc + rd (b.drop at_) (i : Int)) ((i : Int) - 1) := by
  have h := hb.at_ ((at_ + i : Nat) : Int)
  have e1 : wrap64 ((at_ : Int) + (i : Int)) = ((at_ + i : Nat) : Int) := by rw [w64 (by omega) (by omega)]; omega
  have e2 : wrap64 ((i : Int) - 1) = (i : Int) - 1 := w64 (by omega) (by omega)
  rw [aneroidref21_read.l0, if_pos (by omega), e1, if_pos (by omega), if_pos (by rw [strOfNums_size]; omega), e2, bt_str b hb, rd_drop]
  generalize rd b ((at_ + i : Nat) : Int) = y at h
  have e3 : wrap64 y = y := w64 (by omega) (by omega)
  rw [IntKind.wrap_u64, IntKind.wrap_u64, IntKind.wrap_u64]
  congr 1
  omega

theorem read_f (k : Nat) (b : List Int) (hb : Bytes b) (at_ : Nat) (hl : b.length ≤ 100000) (hat : at_ + 8 ≤ b.length) : aneroidref21_read.f (k + 9) (strOfNums b) (at_ : Int) = some (num8 (b.drop at_)) := by
  have s := fun (k i : Nat) (acc : Int) (h0 : 0 ≤ acc) (h1 : acc < 72057594037927936) (hi : i < 8) => read_step k b hb at_ i acc hl (by omega) h0 h1 hi
  have g := fun (i : Nat) => (hb.drop at_).at_ (i : Int)
  have g0 := g 0; have g1 := g 1; have g2 := g 2; have g3 := g 3; have g4 := g 4; have g5 := g 5; have g6 := g 6; have g7 := g 7
  show aneroidref21_read.l0 (k + 8 + 1) (strOfNums b) (at_ : Int) 0 ((7 : Nat) : Int) = _
  rw [s (k + 8) 7 0 (by omega) (by omega) (by omega), show ((7 : Nat) : Int) - 1 = ((6 : Nat) : Int) by omega, s (k + 7) 6 _ (by omega) (by omega) (by omega), show ((6 : Nat) : Int) - 1 = ((5 : Nat) : Int) by omega,
    s (k + 6) 5 _ (by omega) (by omega) (by omega), show ((5 : Nat) : Int) - 1 = ((4 : Nat) : Int) by omega, s (k + 5) 4 _ (by omega) (by omega) (by omega), show ((4 : Nat) : Int) - 1 = ((3 : Nat) : Int) by omega,
    s (k + 4) 3 _ (by omega) (by omega) (by omega), show ((3 : Nat) : Int) - 1 = ((2 : Nat) : Int) by omega, s (k + 3) 2 _ (by omega) (by omega) (by omega), show ((2 : Nat) : Int) - 1 = ((1 : Nat) : Int) by omega,
    s (k + 2) 1 _ (by omega) (by omega) (by omega), show ((1 : Nat) : Int) - 1 = ((0 : Nat) : Int) by omega, s (k + 1) 0 _ (by omega) (by omega) (by omega), aneroidref21_read.l0, if_neg (by omega)]
  unfold num8 val8
  congr 2
  have c0 : ((0 : Nat) : Int) = 0 := rfl
  have c1 : ((1 : Nat) : Int) = 1 := rfl
  have c2 : ((2 : Nat) : Int) = 2 := rfl
  have c3 : ((3 : Nat) : Int) = 3 := rfl
  have c4 : ((4 : Nat) : Int) = 4 := rfl
  have c5 : ((5 : Nat) : Int) = 5 := rfl
  have c6 : ((6 : Nat) : Int) = 6 := rfl
  have c7 : ((7 : Nat) : Int) = 7 := rfl
  rw [c0, c1, c2, c3, c4, c5, c6, c7]
  omega

set_option maxHeartbeats 4000000 in
theorem rget_run (b : List Int) (hb : Bytes b) (hl : b.length ≤ 100000) : ∀ (n at_ : Nat) (acc : List S33), at_ ≤ b.length → b.length - at_ < n → acc.length + n ≤ 1000000 →
    aneroidref21_Get.l0 (3 * n + 13) (strOfNums b) acc (at_ : Int) = some (get n (b.drop at_) acc) := by
  intro n
  induction n with
  | zero => intro at_ acc h1 h2; omega
  | succ n ih =>
    intro at_ acc h1 hn ha
    have h := hb.at_ (at_ : Int)
    have hr : rd (b.drop at_) 0 = rd b (at_ : Int) := rd_drop b at_ 0
    have hlen : (b.drop at_).length = b.length - at_ := List.length_drop
    have hs : ((strOfNums b).size : Int) = (b.length : Int) := by rw [strOfNums_size]
    rw [show 3 * (n + 1) + 13 = (3 * n + 15) + 1 by omega, aneroidref21_Get.l0, get, hr, hlen, hs]
    by_cases h0 : b.length - at_ = 0
    · rw [if_pos h0, if_neg (by omega)]
    · rw [if_neg h0, if_pos (by omega), if_pos (by omega), bt_str b hb]
      by_cases h3 : rd b (at_ : Int) > 3
      · rw [if_pos h3, if_pos h3]
      · rw [if_neg h3, if_neg h3]
        clear hr hlen
        have hd : ∀ m, (b.drop at_).drop m = b.drop (at_ + m) := fun m => by rw [List.drop_drop]
        simp only [hd]
        have w17 : wrap64 ((at_ : Int) + 17) = ((at_ + 17 : Nat) : Int) := by rw [w64 (by omega) (by omega)]; omega
        have w9 : wrap64 ((at_ : Int) + 9) = ((at_ + 9 : Nat) : Int) := by rw [w64 (by omega) (by omega)]; omega
        have w1 : wrap64 ((at_ : Int) + 1) = ((at_ + 1 : Nat) : Int) := by rw [w64 (by omega) (by omega)]; omega
        have hf2 : decide (rd b (at_ : Int) > 1) = (rd b (at_ : Int) / 2 == 1) := by
          rcases (show rd b (at_ : Int) = 0 ∨ rd b (at_ : Int) = 1 ∨ rd b (at_ : Int) = 2 ∨ rd b (at_ : Int) = 3 by omega) with e | e | e | e <;> rw [e] <;> rfl
        by_cases ho : rd b (at_ : Int) % 2 = 1
        · have hj : aneroidref21_Get.j1 (3 * n + 15) (strOfNums b) acc (at_ : Int) (rd b (at_ : Int)) true = some (if ((b.length - at_ : Nat) : Int) < 9 + 8 * (rd b (at_ : Int) % 2) then ([], 5) else get n (b.drop (at_ + 17)) (acc ++ [⟨num8 (b.drop (at_ + 1)), true, num8 (b.drop (at_ + 9)), rd b (at_ : Int) / 2 == 1⟩])) := by
            rw [show 3 * n + 15 = (3 * n + 14) + 1 by omega, aneroidref21_Get.j1, if_pos rfl, w17, show 3 * n + 14 = (3 * n + 13) + 1 by omega, aneroidref21_Get.j2, hs, hf2]
            by_cases h5 : ((b.length - at_ : Nat) : Int) < 9 + 8 * (rd b (at_ : Int) % 2)
            · rw [if_pos h5, if_pos (by omega)]
            · rw [if_neg h5, if_neg (by omega), w1, show 3 * n + 13 = (3 * n + 4) + 9 by omega, read_f _ b hb _ hl (by omega), Option.bind_some, if_pos rfl, w9, read_f _ b hb _ hl (by omega), Option.bind_some, if_pos (by omega), show (3 * n + 4) + 9 = 3 * n + 13 by omega]
              exact ih (at_ + 17) _ (by omega) (by omega) (by simp; omega)
          rw [if_pos ho]
          by_cases e1 : rd b (at_ : Int) = 1
          · rw [if_pos e1, hj]
          · have e3 : (rd b (at_ : Int) == 3) = true := by rw [beq_iff_eq]; omega
            rw [if_neg e1, e3, hj]
        · have e1 : ¬ rd b (at_ : Int) = 1 := by omega
          have e3 : (rd b (at_ : Int) == 3) = false := by rw [beq_eq_false_iff_ne]; omega
          rw [if_neg ho, if_neg e1, e3, show 3 * n + 15 = (3 * n + 14) + 1 by omega, aneroidref21_Get.j1, if_neg (by simp), w9, show 3 * n + 14 = (3 * n + 13) + 1 by omega, aneroidref21_Get.j2, hs, hf2]
          by_cases h5 : ((b.length - at_ : Nat) : Int) < 9 + 8 * (rd b (at_ : Int) % 2)
          · rw [if_pos h5, if_pos (by omega)]
          · rw [if_neg h5, if_neg (by omega), w1, show 3 * n + 13 = (3 * n + 4) + 9 by omega, read_f _ b hb _ hl (by omega), Option.bind_some, if_neg (by simp), if_pos (by omega), show (3 * n + 4) + 9 = 3 * n + 13 by omega]
            exact ih (at_ + 9) _ (by omega) (by omega) (by simp; omega)
end Go.Proofs.Ytoknlaknffpigaa.Tp
