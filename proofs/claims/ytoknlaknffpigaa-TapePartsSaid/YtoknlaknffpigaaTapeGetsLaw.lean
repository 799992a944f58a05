/- The ticks of any bytes, or that they are none's, are the document's; what is read has these bytes: the walk of the law TapeGets of layer 21. -/
import Derived.Test.YtoknlaknffpigaaTapeGetWalk
import Derived.Test.YtoknlaknffpigaaTapePlain2
import Derived.Test.YtoknlaknffpigaaTapeSame
import Derived.Test.YtoknlaknffpigaaTapeFixed
import Derived.Deep.RegionWith
namespace Go.Proofs.Ytoknlaknffpigaa.Tp
open Go.RowKit Go.Proofs.YtoknlaknffpigaaW.PrintWords Go.Proofs.YtoknlaknffpigaaW.PrintLast Go.Proofs.YtoknlaknffpigaaW.PrintMore Go.Proofs.Ytoknlaknffpigaa.PTapePuts Go.Proofs.Ytoknlaknffpigaa.Tm
set_option linter.unusedVariables false
set_option linter.unusedSimpArgs false

theorem rget_any (w : World) (b : List Int) (hb : Bytes b) (hl : b.length ≤ 100000) :
    Calls Try.prog 48 #[.string (strOfNums b)] w fun e w' => ∃ v : Value, e = .returned (.tuple #[v, .int .i64 (get (b.length + 1) b []).2]) ∧ Kd.R k33 33 w' w.heap.size (fun _ => True) v (get (b.length + 1) b []).1 ∧ Below w.heap.size w w' :=
  aneroidref21_Get.calls (3 * (b.length + 1) + 13) (strOfNums b) _ _ w (rget_run b hb hl (b.length + 1) 0 [] (by omega) (by omega) (by simp; omega))

theorem sameS_run (l : List S33) (hl : l.length ≤ 100000) : ∀ (n j : Nat), j + n = l.length → aneroidref21_Same.l0 (n + 1) l l (j : Int) = some true := by
  intro n
  induction n with
  | zero => intro j hj; rw [aneroidref21_Same.l0, if_neg (by omega)]
  | succ n ih =>
    intro j hj
    have e2 : wrap64 ((j : Int) + 1) = ((j + 1 : Nat) : Int) := by rw [w64 (by omega) (by omega)]; omega
    rw [aneroidref21_Same.l0, if_pos (by omega), if_pos (by omega), if_pos (by omega), e2, if_neg (by simp)]
    exact ih (j + 1) (by omega)
theorem sameS_any (w : World) (A : Option Addr) (c : Nat) (B : Option Addr) (d : Nat) (l : List S33) (h1 : Kd.C k33 w A l.length l) (hc : l.length ≤ c) (h2 : Kd.C k33 w B l.length l) (hd : l.length ≤ d) (hl : l.length ≤ 100000) :
    Calls Try.prog 47 #[.slice A l.length c, .slice B l.length d] w fun e w' => e = .returned (.bool true) ∧ Below w.heap.size w w' := by
  have hs : aneroidref21_Same.f (l.length + 1) l l = some true := by
    unfold aneroidref21_Same.f
    rw [if_pos rfl]
    exact sameS_run l hl l.length 0 (by omega)
  refine (aneroidref21_Same.calls (l.length + 1) A c l B d l true w h1 hc h2 hd hs).mono ?_
  rintro e w' ⟨he, hdr⟩
  exact ⟨he, hdr.below⟩

theorem tbs_more (l : List S33) : l.length ≤ (l.flatMap tb).length := by
  induction l with
  | nil => simp
  | cons t r ih =>
    have h : 1 ≤ (tb t).length := by simp [tb]
    rw [List.flatMap_cons, List.length_append, List.length_cons]
    omega
theorem head_rd (b : List Int) (h : 0 < b.length) : b = rd b 0 :: b.drop 1 := by
  cases b with
  | nil => simp at h
  | cons x t => rfl

theorem get_back : ∀ (n : Nat) (b : List Int) (acc : List S33), Bytes b → b.length < n →
    (((get n b acc).2 = 5 ∨ (get n b acc).2 = 6) ∧ (get n b acc).1 = []) ∨ ((get n b acc).2 = 0 ∧ ∃ l, (get n b acc).1 = acc ++ l ∧ l.any bad = false ∧ l.flatMap tb = b) := by
  intro n
  induction n with
  | zero => intro b acc _ h; omega
  | succ n ih =>
    intro b acc hb hn
    have h := hb.at_ 0
    rw [get]
    by_cases h0 : b.length = 0
    · rw [if_pos h0]
      right
      exact ⟨rfl, [], by simp, rfl, by simpa using (List.length_eq_zero_iff.1 h0).symm⟩
    · rw [if_neg h0]
      have hd := head_rd b (by omega)
      generalize hf : rd b 0 = f at *
      by_cases h3 : f > 3
      · rw [if_pos h3]
        exact .inl ⟨.inr rfl, rfl⟩
      · rw [if_neg h3]
        by_cases h5 : (b.length : Int) < 9 + 8 * (f % 2)
        · rw [if_pos h5]
          exact .inl ⟨.inl rfl, rfl⟩
        · rw [if_neg h5]
          have hl1 : le8 (num8 (b.drop 1)) = (b.drop 1).take 8 := le8_num8 _ (hb.drop 1) (by rw [List.length_drop]; omega)
          by_cases h1 : f % 2 = 1
          · rw [if_pos h1]
            have hl9 : le8 (num8 (b.drop 9)) = (b.drop 9).take 8 := le8_num8 _ (hb.drop 9) (by rw [List.length_drop]; omega)
            have e : tb ⟨num8 (b.drop 1), true, num8 (b.drop 9), f / 2 == 1⟩ ++ b.drop 17 = b := by
              have hff : 1 + 2 * b1 (f / 2 == 1) = f := by
                rcases (show f = 1 ∨ f = 3 by omega) with e | e <;> rw [e] <;> rfl
              have e9 : b.drop 9 = (b.drop 9).take 8 ++ b.drop 17 := by
                rw [show b.drop 17 = (b.drop 9).drop 8 by rw [List.drop_drop], List.take_append_drop]
              have e1 : b.drop 1 = (b.drop 1).take 8 ++ b.drop 9 := by
                rw [show b.drop 9 = (b.drop 1).drop 8 by rw [List.drop_drop], List.take_append_drop]
              simp only [tb, if_true, hl1, hl9]
              rw [show b1 true = 1 from rfl, hff, List.cons_append, List.append_assoc, ← e9, ← e1]
              exact hd.symm
            rcases ih (b.drop 17) (acc ++ [⟨num8 (b.drop 1), true, num8 (b.drop 9), f / 2 == 1⟩]) (hb.drop 17) (by rw [List.length_drop]; omega) with h6 | ⟨h6, l, h7, h8, h9⟩
            · exact .inl h6
            · right
              refine ⟨h6, ⟨num8 (b.drop 1), true, num8 (b.drop 9), f / 2 == 1⟩ :: l, by rw [h7]; simp, by simp [bad, h8], ?_⟩
              rw [List.flatMap_cons, h9, e]
          · rw [if_neg h1]
            have e : tb ⟨num8 (b.drop 1), false, 0, f / 2 == 1⟩ ++ b.drop 9 = b := by
              have hff : 0 + 2 * b1 (f / 2 == 1) = f := by
                rcases (show f = 0 ∨ f = 2 by omega) with e | e <;> rw [e] <;> rfl
              have e1 : b.drop 1 = (b.drop 1).take 8 ++ b.drop 9 := by
                rw [show b.drop 9 = (b.drop 1).drop 8 by rw [List.drop_drop], List.take_append_drop]
              simp only [tb, hl1]
              rw [show b1 false = 0 from rfl, hff, if_neg (by simp), List.append_nil, List.cons_append, ← e1]
              exact hd.symm
            rcases ih (b.drop 9) (acc ++ [⟨num8 (b.drop 1), false, 0, f / 2 == 1⟩]) (hb.drop 9) (by rw [List.length_drop]; omega) with h6 | ⟨h6, l, h7, h8, h9⟩
            · exact .inl h6
            · right
              refine ⟨h6, ⟨num8 (b.drop 1), false, 0, f / 2 == 1⟩ :: l, by rw [h7]; simp, by simp [bad, h8], ?_⟩
              rw [List.flatMap_cons, h9, e]

set_option maxRecDepth 100000 in
set_option maxHeartbeats 4000000 in
theorem lawGets_any (w : World) (A : Option Addr) (c : Nat) (b : List Int) (hr : Kd.C (Kd.int .u8) w A b.length b) (hc : b.length ≤ c) (hb : Bytes b) :
    Calls Try.prog 13 #[.slice A b.length c] w fun e w' => e = .returned (.bool true) ∧ Below w.heap.size w w' := by
  have HR := Aside0.mk hr
  have HS := Aside0.mk hb
  clear hr hb
  by_cases hl : 2000 < b.length
  · have h1 : decide ((2000 : Int) < (b.length : Int)) = true := decide_eq_true (by omega)
    go_enter Try.func13, Try.ntmps13
    go_wp2_with (first | (go_at_call 39; refine (fixed_any _).mono ?_; rintro e w1 ⟨rfl, hb⟩))
    go_ret
    exact ⟨rfl, hb⟩
  · have h1 : decide ((2000 : Int) < (b.length : Int)) = false := decide_eq_false (by omega)
    go_enter Try.func13, Try.ntmps13
    go_wp2_with fail
    refine (get_walk w A c b HR.out hc HS.out (by omega)).mono ?_
    rintro e w1 ⟨v, rfl, ho, hb1⟩
    have HO := Aside0.mk ho
    have HB := Aside0.mk hb1
    have HR1 := Aside0.mk (Kd.C_below HR.out hb1)
    clear ho hb1
    have hcv := Kd.C_string (P := Try.prog) (n := b.length) (c := c) Try.underlying68 Try.underlying5 Try.underlying9 HR1.out
    go_wp2_with fail
    clear hcv
    refine (rget_any w1 b HS.out (by omega)).mono ?_
    rintro e w2 ⟨u, rfl, hu, hb2⟩
    have HBK := Aside0.mk (get_back (b.length + 1) b [] HS.out (by omega))
    obtain ⟨ls, hls⟩ : ∃ ls, ls = (get (b.length + 1) b []).1 := ⟨_, rfl⟩
    obtain ⟨er, her⟩ : ∃ er, er = (get (b.length + 1) b []).2 := ⟨_, rfl⟩
    rw [← hls] at hu HO HBK
    rw [← her] at HBK ⊢
    replace HO := Aside0.mk (Kd.R_below HO.out hb2)
    replace HB := Aside0.mk (below_step HB.out hb2)
    clear hb2 hls her HR1
    have hlen : ls.length ≤ 2000 := by
      rcases HBK.out with ⟨_, h⟩ | ⟨_, l, h, _, h2⟩
      · rw [h]; simp
      · have := tbs_more l
        rw [h2] at this
        rw [h]
        simp
        omega
    obtain ⟨A1, c1, rfl, hc1, hC1⟩ := Kd.R_reads HO.out
    obtain ⟨A2, c2, rfl, hc2, hC2⟩ := Kd.R_reads hu
    have H1 := Aside0.mk hC1
    have H2 := Aside0.mk hC2
    clear hC1 hC2 hu HO
    go_wp2_with fail
    refine (sameS_any w2 A1 c1 A2 c2 ls H1.out hc1 H2.out hc2 (by omega)).mono ?_
    rintro e w3 ⟨rfl, hb3⟩
    replace HB := Aside0.mk (below_step HB.out hb3)
    replace H1 := Aside0.mk (Kd.C_below H1.out hb3)
    clear hb3 H2
    have q3 : (er != er) = false := by simp
    go_wp2_with fail
    refine (put_any w3 A1 c1 ls H1.out (by omega)).mono ?_
    rintro e w4 ⟨v4, rfl, h4, hb4⟩
    replace HB := Aside0.mk (below_step HB.out hb4)
    clear hb4 H1
    rcases HBK.out with ⟨h56, _⟩ | ⟨h0, l, h5, h6, h7⟩
    · have q4 : (er != 0) = true := by rcases h56 with h | h <;> rw [h] <;> rfl
      clear h56 HBK h4
      generalize (put ls).2 = pe
      go_wp2_with fail
      refine (fixed_any w4).mono ?_
      rintro e w5 ⟨rfl, hb5⟩
      replace HB := Aside0.mk (below_step HB.out hb5)
      clear hb5
      go_wp2_with fail
      go_ret
      exact ⟨rfl, HB.out⟩
    · have hp : put ls = (b, 0) := by
        rw [h5, List.nil_append]
        unfold put
        rw [if_neg (by simp [h6]), h7]
      rw [hp] at h4 ⊢
      obtain ⟨A4, c4, rfl, _, hC4⟩ := Kd.R_reads h4
      have H4 := Aside0.mk hC4
      clear hC4 h4 hp h5 h6 h7 HBK
      subst h0
      go_wp2_with fail
      refine (fixed_any w4).mono ?_
      rintro e w5 ⟨rfl, hb5⟩
      replace HB := Aside0.mk (below_step HB.out hb5)
      have hcv4 := Kd.C_string (P := Try.prog) (n := b.length) (c := c4) Try.underlying68 Try.underlying5 Try.underlying9 (Kd.C_below H4.out hb5)
      have hcv5 := Kd.C_string (P := Try.prog) (n := b.length) (c := c) Try.underlying68 Try.underlying5 Try.underlying9 (Kd.C_below HR.out HB.out)
      have q1 : ((strOfNums b).toList == (strOfNums b).toList) = true := by simp
      clear hb5
      go_wp2_with fail
      go_ret
      exact ⟨rfl, HB.out⟩

theorem u8_in {co : Int} (wc : (Lit.int .u8 co).wf = true) : 0 ≤ co ∧ co ≤ 255 := by
  have h1 : IntKind.u8.min = 0 := by decide
  have h2 : IntKind.u8.max = 255 := by decide
  simp [Lit.wf, h1, h2] at wc
  omega
theorem lawGets_row (w : World) (a0 : Option Addr) (len0 cap0 : Nat) (z0 : List Int)
    (w0 : (a0 = none ∧ len0 = 0 ∧ cap0 = 0 ∧ z0 = []) ∨ ∃ x, a0 = some x ∧ len0 ≤ cap0 ∧ cap0 ≤ maxLen ∧ z0.length = cap0 ∧ (∀ i, i < z0.length → w.cell? (x.add i) = some (.int .u8 (z0.getD i 0))) ∧ ∀ n ∈ z0, (Lit.int .u8 n).wf = true) :
    Calls Try.prog 13 #[.slice a0 len0 cap0] w fun e w' => e = .returned (.bool true) ∧ Below w.heap.size w w' := by
  obtain ⟨l0, rfl, hr0, hx, hy, hc0⟩ := ReadsInt.ofRowC w0
  exact lawGets_any w a0 cap0 l0 (Kd.C_of_reads (d := (0 : Int)) (h1 := fun _ => rfl) hr0) hc0 (fun x h => u8_in (hy x h))
end Go.Proofs.Ytoknlaknffpigaa.Tp
