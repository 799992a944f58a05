/- Any ticks' bytes, or that they have none, are the document's; they are read as these: the walk of the law TapePuts of layer 21. -/
import Derived.Test.YtoknlaknffpigaaTapeRef
import Derived.Test.YtoknlaknffpigaaTapeGetsLaw
import Derived.Test.YtoknlaknffpigaaTapeFixed
import Derived.Deep.RegionWith
import Derived.Test.YtoknlaknffpigaaTicksOf
namespace Go.Proofs.Ytoknlaknffpigaa.Tp
open Go.RowKit Go.Proofs.YtoknlaknffpigaaW.PrintWords Go.Proofs.YtoknlaknffpigaaW.PrintLast Go.Proofs.YtoknlaknffpigaaW.PrintMore Go.Proofs.Ytoknlaknffpigaa.PTapePuts Go.Proofs.Ytoknlaknffpigaa.Tm
set_option linter.unusedVariables false
set_option linter.unusedSimpArgs false

theorem tb_bytes (t : S33) : Bytes (tb t) := by
  intro x hx
  unfold tb at hx
  rcases List.mem_cons.1 hx with rfl | hx
  · cases t.f1 <;> cases t.f3 <;> simp [b1]
  · rcases List.mem_append.1 hx with hx | hx
    · exact le8_bytes _ x hx
    · split at hx
      · exact le8_bytes _ x hx
      · simp at hx
theorem put_bytes (l : List S33) : Bytes (put l).1 := by
  unfold put
  split
  · intro x hx
    simp at hx
  · intro x hx
    obtain ⟨t, _, ht⟩ := List.mem_flatMap.1 hx
    exact tb_bytes t x ht
theorem put_len (l : List S33) : (put l).1.length ≤ 17 * l.length := by
  unfold put
  split
  · simp
  · exact tbs_length l
theorem put_no (l : List S33) : (put l).2 = 0 ∨ (put l).2 = 1 := by
  unfold put
  split
  · exact .inr rfl
  · exact .inl rfl
theorem put_ok (l : List S33) (h : (put l).2 = 0) : l.any bad = false ∧ (put l).1 = l.flatMap tb := by
  unfold put at h ⊢
  split at h
  · simp at h
  · rename_i hn
    have : l.any bad = false := by simpa using hn
    rw [if_neg hn]
    exact ⟨this, rfl⟩

theorem tbs_long (l : List S33) : l.length ≤ (l.flatMap tb).length := by
  induction l with
  | nil => simp
  | cons t r ih =>
    have h : 1 ≤ (tb t).length := by simp [tb]
    rw [List.flatMap_cons, List.length_append, List.length_cons]
    omega

set_option maxRecDepth 100000 in
set_option maxHeartbeats 4000000 in
theorem lawPuts_any (w : World) (A : Option Addr) (c : Nat) (l : List S33) (hr : Kd.C k33 w A l.length l) (hc : l.length ≤ c) (ho : ∀ t ∈ l, OkT t) :
    Calls Try.prog 12 #[.slice A l.length c] w fun e w' => e = .returned (.bool true) ∧ Below w.heap.size w w' := by
  have HR := Aside0.mk hr
  have HOK := Aside0.mk ho
  clear hr ho
  by_cases hl : 100 < l.length
  · have h1 : decide ((100 : Int) < (l.length : Int)) = true := decide_eq_true (by omega)
    go_enter Try.func12, Try.ntmps12
    go_wp2_with (first | (go_at_call 39; refine (fixed_any _).mono ?_; rintro e w1 ⟨rfl, hb⟩))
    go_ret
    exact ⟨rfl, hb⟩
  · have h1 : decide ((100 : Int) < (l.length : Int)) = false := decide_eq_false (by omega)
    go_enter Try.func12, Try.ntmps12
    go_wp2_with fail
    refine (put_any w A c l HR.out (by omega)).mono ?_
    rintro e w1 ⟨v, rfl, ho1, hb1⟩
    obtain ⟨A1, c1, rfl, hc1, hC1⟩ := Kd.R_reads ho1
    have HO := Aside0.mk ho1
    have HB := Aside0.mk hb1
    clear ho1 hC1
    go_wp2_with fail
    refine (rput_walk w1 A c l (Kd.C_below HR.out hb1) (by omega)).mono ?_
    rintro e w2 ⟨rfl, hb2⟩
    replace HO := Aside0.mk (Kd.R_below HO.out hb2)
    replace HB := Aside0.mk (below_step HB.out hb2)
    clear hb1 hb2
    have HP := Aside0.mk (put_no l)
    obtain ⟨bs, hbs⟩ : ∃ bs, bs = (put l).1 := ⟨_, rfl⟩
    obtain ⟨er, her⟩ : ∃ er, er = (put l).2 := ⟨_, rfl⟩
    rw [← hbs] at HO ⊢
    rw [← her] at HP ⊢
    have HBS := Aside0.mk hbs
    have HER := Aside0.mk her
    clear hbs her
    have hcv := Kd.C_string (P := Try.prog) (n := bs.length) (c := c1) Try.underlying68 Try.underlying5 Try.underlying9 (Kd.R_reads' HO.out).2.2
    have q1 : ((strOfNums bs).toList == (strOfNums bs).toList) = true := by simp
    have q2 : ((strOfNums bs).toList != (strOfNums bs).toList) = false := by simp
    have q3 : (er != er) = false := by simp
    go_wp2_with fail
    refine (get_walk w2 A1 c1 bs (Kd.R_reads' HO.out).2.2 (Kd.R_reads' HO.out).2.1 (by rw [HBS.out]; exact put_bytes l) (by have := put_len l; rw [HBS.out]; omega)).mono ?_
    rintro e w3 ⟨m, rfl, hm, hb3⟩
    replace HB := Aside0.mk (below_step HB.out hb3)
    rcases HP.out with h0 | h0
    · obtain ⟨p1, p2⟩ := put_ok l (by rw [← HER.out]; exact h0)
      have hg : get (bs.length + 1) bs [] = (l, 0) := by
        rw [HBS.out, p2]
        exact get_put _ l [] (by have := tbs_long l; omega) p1 HOK.out
      rw [hg] at hm ⊢
      clear hg p1 p2 HER HBS hcv q1 q2 q3 HO hb3
      subst h0
      obtain ⟨B, d, rfl, hd, hCm⟩ := Kd.R_reads hm
      have HM := Aside0.mk hCm
      clear hm hCm
      go_wp2_with fail
      refine (fixed_any w3).mono ?_
      rintro e w4 ⟨rfl, hb4⟩
      replace HB := Aside0.mk (below_step HB.out hb4)
      replace HM := Aside0.mk (Kd.C_below HM.out hb4)
      clear hb4
      go_wp2_with fail
      refine (sameS_any w4 B d A c l HM.out hd (Kd.C_below HR.out HB.out) hc (by omega)).mono ?_
      rintro e w5 ⟨rfl, hb5⟩
      replace HB := Aside0.mk (below_step HB.out hb5)
      clear hb5
      go_wp2_with fail
      go_ret
      exact ⟨rfl, HB.out⟩
    · clear HER HBS hcv q1 q2 q3 HO hb3 hm
      subst h0
      generalize (get (bs.length + 1) bs []).2 = ge
      go_wp2_with fail
      refine (fixed_any w3).mono ?_
      rintro e w4 ⟨rfl, hb4⟩
      replace HB := Aside0.mk (below_step HB.out hb4)
      clear hb4
      go_wp2_with fail
      go_ret
      exact ⟨rfl, HB.out⟩

theorem lawPuts_row (w : World) (A : Option Addr) (len c : Nat) (l : List Tk.T) (hl : l.length = len) (hok : ∀ t ∈ l, Tk.OkT t) (hr : ReadsRow (fun t c => c = Tk.cellsOfT t) 4 w A len l) (hc : len ≤ c) :
    Calls Try.prog 12 #[.slice A len c] w fun e w' => e = .returned (.bool true) ∧ Below w.heap.size w w' := by
  obtain ⟨h1, h2, h3⟩ := ticks_of hl hok hr
  rw [← h1] at hc ⊢
  exact lawPuts_any w A c (l.map s33) h2 hc h3
end Go.Proofs.Ytoknlaknffpigaa.Tp
