/- The iterator of clocks (layer 19): handed a loop's body, it hands on the clock behind each event; its own clock lies in one block. -/
import Derived.Test.YtoknlaknffpigaaModePlain
import Derived.Test.YtoknlaknffpigaaRangeOwn
import Derived.RangeFuncNested
import Derived.RangeFuncBound
import Derived.RangeFuncCalls
import Derived.RangeFuncLeaves
import Derived.Shelf.Abstract
import Derived.Shelf.RegionOpen
import Derived.WalkKit
import Derived.OwnWalkIn
import Derived.TacticsInMore
import Derived.LoopNIn
import Derived.LoopIn
import Derived.Maps.AppendAt
import Derived.Outline
namespace Go.Proofs.Ytoknlaknffpigaa.Mi
open Go.RowKit Go.Shelf Go.Proofs.YtoknlaknffpigaaW.PrintWords Go.Proofs.Ytoknlaknffpigaa.Mp Go.Proofs.Ytoknlaknffpigaa.Ro

attribute [local go_sem] Oper.semAt_some

/-- What a round that goes on keeps: what lies below n₀, and the blocks in S. -/
def Keeps (n₀ : Nat) (S : Nat → Prop) (W W' : World) : Prop := Below n₀ W W' ∧ ∀ b o, S b → W.heap[b]? = some o → o.isCells = true → W'.heap[b]? = some o

def enc (q : Int × Int) : Array Value := #[.agg #[.int .i64 q.1, .int .i64 q.2]]
def ClockAt (W : World) (c : Nat) (q : Int × Int) : Prop := W.heap[c]? = some (.cells #[.int .i64 q.1, .int .i64 q.2] 55 (0, 0))

set_option maxRecDepth 100000 in
set_option maxHeartbeats 4000000 in
theorem clocks1_in (n : Nat) (hn : 1 ≤ n) (l be bc bo n₀ : Nat) (A : Option Addr) (cap : Nat) (evs : List Int) (co ou : Int) (S : Nat → Prop) (W : World) (hSe : S be) (hSc : S bc) (hSo : S bo) (hS : S W.heap.size)
    (hA : 0 < evs.length → ∀ ad, A = some ad → ad.block < n₀) (hR : Kd.C (Kd.int .i64) W A evs.length evs) (hn₀ : n₀ ≤ W.heap.size)
    (he : W.heap[be]? = some (.cells #[.slice A evs.length cap] 61 (0, 0))) (hc : W.heap[bc]? = some (.cells #[.int .i64 co] 2 (0, 0))) (ho : W.heap[bo]? = some (.cells #[.int .i64 ou] 2 (0, 0)))
    (J : List (Int × Int) → World → Prop) (hJ : AbidesFrom W.heap.size J) (hJc : Private W.heap.size J)
    (hY : ∀ pre x W1, J pre W1 → pre.length < evs.length → W.heap.size < W1.heap.size → YieldAt Fence.wide (n - 1) Try.prog l (enc x) W1 fun e W' => e = .returned (.bool true) ∧ J (pre ++ [x]) W' ∧ Keeps n₀ S W1 W')
    (h0 : J [] W) :
    CallsIn Fence.wide n Try.prog 59 #[.func (.yield l) #[] #[], .pointer (some ⟨be, 0, none⟩), .pointer (some ⟨bc, 0, none⟩), .pointer (some ⟨bo, 0, none⟩)] W fun e W' => (∃ v, e = .returned v) ∧ ∃ xs, xs = runs co ou evs evs.length ∧ J xs W' := by
  have hmax : evs.length ≤ 9223372036854775807 := hR.2.1
  have hbe1 : be < W.heap.size := blk_lt he
  have hbc1 : bc < W.heap.size := blk_lt hc
  have hbo1 : bo < W.heap.size := blk_lt ho
  have HE := Aside0.mk he
  have HCo := Aside0.mk hc
  have HOu := Aside0.mk ho
  clear he hc ho
  have he : W.cell? ⟨be, 0, none⟩ = some (.slice A evs.length cap) := (blk_cell HE.out 0).trans rfl
  have hc : W.cell? ⟨bc, 0, none⟩ = some (.int .i64 co) := (blk_cell HCo.out 0).trans rfl
  have ho : W.cell? ⟨bo, 0, none⟩ = some (.int .i64 ou) := (blk_cell HOu.out 0).trans rfl
  have HR := Aside0.mk hR
  have HY := Aside0.mk hY
  have HJ := Aside0.mk hJ
  have HJC := Aside0.mk hJc
  have HA := Aside0.mk hA
  clear hR hY hJ hJc hA
  refine callsIn_of_wp Try.func59 rfl trivial ?_ rfl
  simp only [Try.ntmps59, List.size_toArray, List.length_cons, List.length_nil, Nat.reduceAdd, Nat.reduceSub, Array.replicate_succ, Array.replicate_zero, List.push_toArray, List.append_toArray, List.nil_append, List.cons_append]
  gi_wp2
  replace HE := Aside0.mk (blk_alloc HE.out (.cells #[.int .i64 0, .int .i64 0] 55))
  replace HCo := Aside0.mk (blk_alloc HCo.out (.cells #[.int .i64 0, .int .i64 0] 55))
  replace HOu := Aside0.mk (blk_alloc HOu.out (.cells #[.int .i64 0, .int .i64 0] 55))
  have HJ0 : Aside0 (J [] (W.alloc (.cells #[.int .i64 0, .int .i64 0] 55))) := ⟨HJ.out [] W _ none h0 (World.grownBy_alloc W _ none) (fun r e => by cases e)⟩
  have HC0 : Aside0 (ClockAt (W.alloc (.cells #[.int .i64 0, .int .i64 0] 55)) W.heap.size (0, 0)) := ⟨blk_new _ _⟩
  have HB0 : Aside0 (Below n₀ W (W.alloc (.cells #[.int .i64 0, .int .i64 0] 55))) := ⟨(Below.refl _ _).alloc hn₀ _⟩
  clear he hc ho h0
  gi_loopw [10] (fun i wr => ∃ k : Nat, k ≤ evs.length ∧ i = .int .i64 k ∧ Aside0 (J (runs co ou evs k) wr) ∧ Aside0 (wr.heap[be]? = some (.cells #[.slice A evs.length cap] 61 (0, 0))) ∧ Aside0 (wr.heap[bc]? = some (.cells #[.int .i64 co] 2 (0, 0))) ∧ Aside0 (wr.heap[bo]? = some (.cells #[.int .i64 ou] 2 (0, 0))) ∧ Aside0 (Below n₀ W wr) ∧ Aside0 (ClockAt wr W.heap.size (after co ou (evs.take k))))
    (fun i _ => evs.length - (intOf i).toNat)
  case atStart => exact ⟨0, Nat.zero_le _, rfl, HJ0, HE, HCo, HOu, HB0, HC0⟩
  case round =>
    clear HJ0 HB0 HC0 HE HCo HOu
    obtain ⟨k, hk, rfl, HJk, HE, HCo, HOu, HBk, HCk⟩ := hrel
    by_cases hlt : k < evs.length
    · have p0 : (0 : Int) ≤ (k : Int) := Int.natCast_nonneg _
      have q0 : (k : Int) < (evs.length : Int) := by omega
      obtain ⟨ad, c0, e, _, _, _⟩ := Kd.C_get HR.out (0 : Int) (k : Int) p0 q0
      cases e
      have hx := Kd.foot_int HR.out (k : Int) p0 q0
      rw [Int.toNat_natCast] at hx
      have hblk : (ad.add k).block < n₀ := by
        have := HA.out (by omega) ad rfl
        unfold Addr.add
        split <;> exact this
      replace hx := (HBk.out.cell hblk).trans hx
      have he2 : wr.cell? ⟨be, 0, none⟩ = some (.slice (some ad) evs.length cap) := (blk_cell HE.out 0).trans rfl
      have hc2 : wr.cell? ⟨bc, 0, none⟩ = some (.int .i64 co) := (blk_cell HCo.out 0).trans rfl
      have ho2 : wr.cell? ⟨bo, 0, none⟩ = some (.int .i64 ou) := (blk_cell HOu.out 0).trans rfl
      have HN := Aside0.mk (after_succ co ou evs k hlt)
      have HRu := Aside0.mk (runs_succ co ou evs k)
      generalize after co ou (evs.take k) = q at HCk HN
      generalize rd evs (k : Int) = ev at hx HN
      obtain ⟨q1, q2⟩ := q
      have d0 : wr.cell? ⟨W.heap.size, 0, none⟩ = some (.int .i64 q1) := (blk_cell HCk.out 0).trans rfl
      have d1 : wr.cell? ⟨W.heap.size, 1, none⟩ = some (.int .i64 q2) := (blk_cell HCk.out 1).trans rfl
      gi_wp2_with fail
      refine ⟨trivial, (callsIn_wide.2 (on_any wr q1 q2 ev co ou)).mono ?_⟩
      rintro e w1 ⟨rfl, hb1⟩
      rw [← HN.out]
      clear d0 d1
      have HC1 := Aside0.mk (show ClockAt w1 W.heap.size (q1, q2) from blk_below HCk.out hb1)
      have d0 : w1.cell? ⟨W.heap.size, 0, none⟩ = some (.int .i64 q1) := (blk_cell HC1.out 0).trans rfl
      have d1 : w1.cell? ⟨W.heap.size, 1, none⟩ = some (.int .i64 q2) := (blk_cell HC1.out 1).trans rfl
      have f0 : w1.frozen? ⟨W.heap.size, 0, none⟩ = false := blk_frozen HC1.out 0
      have f1 : w1.frozen? ⟨W.heap.size, 1, none⟩ = false := blk_frozen HC1.out 1
      have HJ1 := Aside0.mk (HJ.out _ wr w1 none HJk.out (grown_of_below hb1 none) (fun r e => by cases e))
      have HB1 := Aside0.mk (HBk.out.trans (hb1.mono (Nat.le_trans hn₀ HBk.out.size)))
      have ne1 : be ≠ W.heap.size := by omega
      have ne2 : bc ≠ W.heap.size := by omega
      have ne3 : bo ≠ W.heap.size := by omega
      replace HE := Aside0.mk (blk_below HE.out hb1)
      replace HCo := Aside0.mk (blk_below HCo.out hb1)
      replace HOu := Aside0.mk (blk_below HOu.out hb1)
      clear HJk HBk HCk hb1
      obtain ⟨q', hq'⟩ : ∃ q', q' = after co ou (evs.take (k + 1)) := ⟨_, rfl⟩
      rw [← hq'] at HRu ⊢
      have HQ' := Aside0.mk hq'
      clear hq' HN
      have hcell : ∀ (X : World) (q : Int × Int), ClockAt X W.heap.size q → ∀ o, X.heap[W.heap.size]? = some o → o.isCells = true := fun X q h o ho => by
        rw [show X.heap[W.heap.size]? = _ from h] at ho
        injection ho with ho
        rw [← ho]
        rfl
      have HC5a : ClockAt (w1.setCell ⟨W.heap.size, 0, none⟩ (.int .i64 q'.1)) W.heap.size (q'.1, q2) := blk_set HC1.out 0 _
      have HC5 := Aside0.mk (show ClockAt ((w1.setCell ⟨W.heap.size, 0, none⟩ (.int .i64 q'.1)).setCell ⟨W.heap.size, 1, none⟩ (.int .i64 q'.2)) W.heap.size q' from blk_set HC5a 1 _)
      have gs : ∀ (X : World) (j : Nat) (u : Value), X.grownBy (X.setCell ⟨W.heap.size, j, none⟩ u) (some W.heap.size) := fun X j u =>
        ⟨rfl, rfl, rfl, by simp [World.setCell], fun i _ hne => Below.heap_setCell X ⟨W.heap.size, j, none⟩ u i (fun e => hne (by rw [e]))⟩
      have HJ5 := Aside0.mk (HJC.out _ _ _ (HJC.out _ _ _ HJ1.out (gs w1 0 (.int .i64 q'.1)) (hcell w1 (q1, q2) HC1.out)) (gs _ 1 (.int .i64 q'.2)) (hcell _ _ HC5a))
      have HB5 := Aside0.mk ((HB1.out.setCell (p := ⟨W.heap.size, 0, none⟩) hn₀ (.int .i64 q'.1)).setCell (p := ⟨W.heap.size, 1, none⟩) hn₀ (.int .i64 q'.2))
      replace HE := Aside0.mk (blk_far (p := ⟨W.heap.size, 1, none⟩) (blk_far (p := ⟨W.heap.size, 0, none⟩) HE.out ne1 (.int .i64 q'.1)) ne1 (.int .i64 q'.2))
      replace HCo := Aside0.mk (blk_far (p := ⟨W.heap.size, 1, none⟩) (blk_far (p := ⟨W.heap.size, 0, none⟩) HCo.out ne2 (.int .i64 q'.1)) ne2 (.int .i64 q'.2))
      replace HOu := Aside0.mk (blk_far (p := ⟨W.heap.size, 1, none⟩) (blk_far (p := ⟨W.heap.size, 0, none⟩) HOu.out ne3 (.int .i64 q'.1)) ne3 (.int .i64 q'.2))
      obtain ⟨fn, tmps, assign, body, hy, hround⟩ := HY.out _ q' _ HJ5.out (by rw [runs_length]; exact hlt) (blk_lt HC5.out)
      dsimp only [enc] at hy
      have HRO := Aside0.mk hround
      clear hround HC5a gs hcell
      gi_wp2
      refine HRO.out.mono ?_
      rintro e W3 ⟨rfl, hJ3, hk3⟩
      have HJ3 := Aside0.mk (show J (runs co ou evs (k + 1)) W3 by rw [HRu.out]; exact hJ3)
      have HB3 := Aside0.mk (HB5.out.trans hk3.1)
      have HC3 := Aside0.mk (show ClockAt W3 W.heap.size q' from hk3.2 _ _ hS HC5.out rfl)
      replace HE := Aside0.mk (hk3.2 _ _ hSe HE.out rfl)
      replace HCo := Aside0.mk (hk3.2 _ _ hSc HCo.out rfl)
      replace HOu := Aside0.mk (hk3.2 _ _ hSo HOu.out rfl)
      clear hJ3 hk3 HRO
      gi_wp2
      go_roundw
      case rel => exact ⟨k + 1, by omega, by go_num, HJ3, HE, HCo, HOu, HB3, ⟨by rw [← HQ'.out]; exact HC3.out⟩⟩
      case measure => simp [intOf]; omega
    · have hk2 : k = evs.length := by omega
      subst hk2
      gi_wp2
      go_end0
      exact ⟨⟨_, rfl⟩, _, rfl, HJk.out⟩
end Go.Proofs.Ytoknlaknffpigaa.Mi
