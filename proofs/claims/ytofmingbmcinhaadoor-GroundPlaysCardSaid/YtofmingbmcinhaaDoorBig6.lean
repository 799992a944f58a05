/- The document's whole numbers of any size (layer 1): the walks of its Down. -/
import Derived.Test.YtofmingbmcinhaaDoorBig5
import Derived.Test.YtofmingbmcinhaaDoorDownPlain
namespace Go.Proofs.YtofmingbmcinhaaDoor.Bg
open Go.RowKit Go.Proofs.YtofmingbmcinhaaDoorW.PrintWords Go.Proofs.YtofmingbmcinhaaDoorW.PrintLast Go.Proofs.YtofmingbmcinhaaDoorW.PrintMore Go.Proofs.YtofmingbmcinhaaDoor.PGroundPlays
set_option linter.unusedVariables false
set_option linter.unusedSimpArgs false

/-- A whole number in a block of the call's own. -/
def Bx (w : World) (b : Nat) (z : Int) : Prop := ∃ ng A n c, w.heap[b]? = some (.cells #[.bool ng, .slice A n c] 55 (0, 0)) ∧ IsBig w (.agg #[.bool ng, .slice A n c]) z
theorem Bx.below {w w' : World} {b : Nat} {z : Int} (h : Bx w b z) (hb : Below w.heap.size w w') : Bx w' b z := by
  obtain ⟨ng, A, n, c, hx, hv⟩ := h
  exact ⟨ng, A, n, c, blk_below hx hb, hv.below hb⟩
theorem big_zero (w : World) : IsBig w (.agg #[.bool false, .slice none 0 0]) 0 := ⟨false, [], none, 0, rfl, Kd.C_nil _ _, Nat.le_refl _, Dg.nil, fun n h => by simp at h, by simp [val], fun h => by cases h⟩
/-- A digit, halved so often. -/
def hf (d : Int) : Nat → Int
  | 0 => d
  | k + 1 => hf d k / 2
theorem hf_in (d : Int) (h : 0 ≤ d ∧ d < 65536) : ∀ k, 0 ≤ hf d k ∧ hf d k < 65536
  | 0 => h
  | k + 1 => by have := hf_in d h k; unfold hf; omega
theorem hf_pow (d : Int) (k : Nat) : hf d k = d / 2 ^ k := by
  induction k with
  | zero => simp [hf]
  | succ k ih => rw [hf, ih, Int.pow_succ, Int.ediv_ediv_of_nonneg (Int.pow_nonneg (by decide))]
theorem hf_bit (l : List Int) (i : Nat) : hf (rd l ((i / 16 : Nat) : Int)) (i % 16) % 2 = bitOf l i := by rw [hf_pow]; rfl
/-- A number is stored in such a block; what else stands, stands. -/
theorem bx_store {w0 W : World} {b : Nat} {o ng : Bool} {s0 s : Value} {A0 : Option Addr} {n0 k0 : Nat} (hs : s0 = .slice A0 n0 k0) (hX : W.heap[b]? = some (.cells #[.bool o, s0] 55 (0, 0))) (hb : w0.heap.size ≤ b) (hB : Below w0.heap.size w0 W) :
    ((W.setCell ⟨b, 0, none⟩ (.bool ng)).setCell ⟨b, 1, none⟩ s).heap[b]? = some (.cells #[.bool ng, s] 55 (0, 0)) ∧ (∀ v z, IsBig W v z → IsBig ((W.setCell ⟨b, 0, none⟩ (.bool ng)).setCell ⟨b, 1, none⟩ s) v z) ∧
    (∀ b2 z, b2 ≠ b → Bx W b2 z → Bx ((W.setCell ⟨b, 0, none⟩ (.bool ng)).setCell ⟨b, 1, none⟩ s) b2 z) ∧ Below w0.heap.size w0 ((W.setCell ⟨b, 0, none⟩ (.bool ng)).setCell ⟨b, 1, none⟩ s) := by
  subst hs
  have c0 : W.cell? ⟨b, 0, none⟩ = some (.bool o) := (blk_cell hX 0).trans rfl
  have h1 := blk_set hX 0 (.bool ng)
  have c1 : (W.setCell ⟨b, 0, none⟩ (.bool ng)).cell? ⟨b, 1, none⟩ = some (.slice A0 n0 k0) := (blk_cell h1 1).trans rfl
  have keep : ∀ v z, IsBig W v z → IsBig ((W.setCell ⟨b, 0, none⟩ (.bool ng)).setCell ⟨b, 1, none⟩ s) v z := fun v z hv => (hv.set _ (fun z => by rw [c0]; simp) _).set _ (fun z => by rw [c1]; simp) _
  refine ⟨by simpa using blk_set h1 1 s, keep, fun b2 z hne h => ?_, (hB.setCell (p := ⟨b, 0, none⟩) hb _).setCell (p := ⟨b, 1, none⟩) hb _⟩
  obtain ⟨ng2, A2, n2, c2, hx, hv⟩ := h
  exact ⟨ng2, A2, n2, c2, blk_far (blk_far hx (p := ⟨b, 0, none⟩) hne _) (p := ⟨b, 1, none⟩) hne _, keep _ _ hv⟩

set_option maxRecDepth 100000 in
set_option maxHeartbeats 4000000 in
theorem down_any (w : World) (va vb : Value) (a b : Int) (hva : IsBig w va a) (hvb : IsBig w vb b) (ha : Small a) (hb : b < 1099511627776) (ha0 : 0 ≤ a) (hb0 : 0 < b) :
    Calls Tryd.prog 37 #[va, vb] w fun e w' => ∃ v, e = .returned v ∧ IsBig w' v (a / b) ∧ Below w.heap.size w w' := by
  have HVB := Aside0.mk hvb
  obtain ⟨nb, B, m, cb, rfl⟩ := hvb.form
  obtain ⟨na, la, A, ca, rfl, hCa, hca, hda, hna, hza, hpa⟩ := hva
  have hla : la.length ≤ 5 := big_len hda hna (by unfold Small at ha; cases na <;> simp at hza <;> omega)
  obtain rfl : na = false := by
    cases na with
    | false => rfl
    | true => have := hpa rfl; simp at hza; omega
  have HCA := Aside0.mk hCa
  have HDA := Aside0.mk hda
  have HLA := Aside0.mk hca
  have HZ := Aside0.mk (show val la = a by rw [hza]; simp)
  have HL5 := Aside0.mk hla
  have HSB := Aside0.mk hb
  have HB0 := Aside0.mk hb0
  have HA0 := Aside0.mk ha0
  have HSA := Aside0.mk ha
  clear hvb hCa hca hda hna hza hpa ha hb ha0 hb0 hla
  go_enter Tryd.func37, Tryd.ntmps37
  go_upto_region 1 with fail
  obtain ⟨x2, x3, x4, hB⟩ := blocks3 w #[.bool false, .slice A la.length ca] #[.bool nb, .slice B m cb] #[.bool false, .slice none 0 0] 55 55 55
  generalize ((w.alloc (.cells #[.bool false, .slice A la.length ca] 55)).alloc (.cells #[.bool nb, .slice B m cb] 55)).alloc (.cells #[.bool false, .slice none 0 0] 55) = w1 at x2 x3 x4 hB ⊢
  obtain ⟨b2, h2⟩ : ∃ b, b = w.heap.size := ⟨_, rfl⟩
  obtain ⟨b3, h3⟩ : ∃ b, b = w.heap.size + 1 := ⟨_, rfl⟩
  obtain ⟨b4, h4⟩ : ∃ b, b = w.heap.size + 1 + 1 := ⟨_, rfl⟩
  have g4 : w.heap.size ≤ b4 := by omega
  have d24 : b2 ≠ b4 := by omega
  have d34 : b3 ≠ b4 := by omega
  rw [← h4, ← h3, ← h2]
  rw [← h4] at x4
  rw [← h3] at x3
  rw [← h2] at x2
  have HX2 := Aside0.mk x2
  have HX3 := Aside0.mk x3
  have HX4 := Aside0.mk x4
  have HB := Aside0.mk hB
  clear x2 x3 x4 hB h2 h3 h4
  go_upto_region 2 with fail
  obtain ⟨x5, x6, hB2⟩ := blocks2 w1 #[.bool false, .slice none 0 0] #[.bool false, .slice none 0 0] 55 55
  have l2 := blk_lt HX2.out
  have l3 := blk_lt HX3.out
  have l4 := blk_lt HX4.out
  replace HX2 := Aside0.mk (blk_below HX2.out hB2)
  replace HX3 := Aside0.mk (blk_below HX3.out hB2)
  replace HX4 := Aside0.mk (blk_below HX4.out hB2)
  have g1 := HB.out.size
  replace HB := Aside0.mk (below_step HB.out hB2)
  obtain ⟨b5, h5⟩ : ∃ b, b = w1.heap.size := ⟨_, rfl⟩
  obtain ⟨b6, h6⟩ : ∃ b, b = w1.heap.size + 1 := ⟨_, rfl⟩
  have g5 : w.heap.size ≤ b5 := by omega
  have g6 : w.heap.size ≤ b6 := by omega
  have d56 : b5 ≠ b6 := by omega
  have d45 : b4 ≠ b5 := by omega
  have d46 : b4 ≠ b6 := by omega
  rw [← h5] at x5
  rw [← h6] at x6
  rw [← h6, ← h5]
  have n25 : b2 ≠ b5 ∧ b3 ≠ b5 ∧ b2 ≠ b6 ∧ b3 ≠ b6 := by
    exact ⟨by omega, by have := blk_lt HX3.out; have := l3; omega, by omega, by have := l3; omega⟩
  generalize (w1.alloc (.cells #[.bool false, .slice none 0 0] 55)).alloc (.cells #[.bool false, .slice none 0 0] 55) = w2 at x5 x6 hB2 HX2 HX3 HX4 HB ⊢
  have H5 := Aside0.mk (show Bx w2 b5 0 from ⟨false, none, 0, 0, x5, big_zero _⟩)
  have H6 := Aside0.mk (show Bx w2 b6 0 from ⟨false, none, 0, 0, x6, big_zero _⟩)
  clear x5 x6 hB2 l4 l3 l2 g1 h5 h6
  have x21 : w2.cell? ⟨b2, 1, none⟩ = some (.slice A la.length ca) := (blk_cell HX2.out 1).trans rfl
  have e16 : wrap64 (16 * (la.length : Int)) = 16 * (la.length : Int) := w64 (by have := HL5.out; omega) (by have := HL5.out; omega)
  have e15 : wrap64 (16 * (la.length : Int) - 1) = 16 * (la.length : Int) - 1 := w64 (by have := HL5.out; omega) (by have := HL5.out; omega)
  go_wp2_with fail
  go_loopw [7] (fun v7 wr => ∃ i : Nat, i ≤ 16 * la.length ∧ v7 = .int .i64 ((i : Int) - 1) ∧ Aside0 (Bx wr b5 (top la i / b)) ∧ Aside0 (Bx wr b6 (top la i % b)) ∧ Aside0 (wr.heap[b2]? = some (.cells #[.bool false, .slice A la.length ca] 55 (0, 0))) ∧ Aside0 (wr.heap[b3]? = some (.cells #[.bool nb, .slice B m cb] 55 (0, 0))) ∧ Aside0 (wr.heap[b4]? = some (.cells #[.bool false, .slice none 0 0] 55 (0, 0))) ∧ Aside0 (Below w.heap.size w wr)) (fun v7 _ => (intOf v7 + 1).toNat)
  case atStart => exact ⟨16 * la.length, Nat.le_refl _, by simp [e15], ⟨by rw [top_far la HDA.out, Int.zero_ediv]; exact H5.out⟩, ⟨by rw [top_far la HDA.out, Int.zero_emod]; exact H6.out⟩, HX2, HX3, HX4, HB⟩
  case round =>
    clear H5 H6 HX2 HX3 HX4 HB x21 e16 e15
    obtain ⟨i1, hi, rfl, H5, H6, HX2, HX3, HX4, HB⟩ := hrel
    have x21 : wr.cell? ⟨b2, 1, none⟩ = some (.slice A la.length ca) := (blk_cell HX2.out 1).trans rfl
    cases i1 with
    | zero =>
      have q0 : decide ((0 : Int) ≤ ((0 : Nat) : Int) - 1) = false := by decide
      have x20 : wr.cell? ⟨b2, 0, none⟩ = some (.bool false) := (blk_cell HX2.out 0).trans rfl
      obtain ⟨ng5, A5, n5, c5, hx5, ⟨ng6, l5, A6, c6, e5, hC5, hc5, hd5, hn5, hz5, hp5⟩⟩ := H5.out
      simp at e5
      obtain ⟨rfl, rfl, rfl, rfl⟩ := e5
      rw [top_zero, HZ.out] at hz5
      have hge : 0 ≤ a / b := Int.ediv_nonneg HA0.out (Int.le_of_lt HB0.out)
      have hle : a / b ≤ a := Int.ediv_le_self _ HA0.out
      have hv5 : val l5 = a / b := by
        cases ng5 with
        | false => simpa using hz5.symm
        | true => have := hp5 rfl; simp at hz5; omega
      have hl5 : l5.length ≤ 5 := big_len hd5 hn5 (by rw [hv5]; exact Int.lt_of_le_of_lt hle HSA.out.2)
      have hl6 : l5.length ≤ 2000 := Nat.le_trans hl5 (by decide)
      have x51 : wr.cell? ⟨b5, 1, none⟩ = some (.slice A5 l5.length c5) := (blk_cell hx5 1).trans rfl
      have HC5 := Aside0.mk hC5
      have HC6 := Aside0.mk hc5
      have HD5 := Aside0.mk hd5
      have HV5 := Aside0.mk hv5
      clear hx5 hC5 hc5 hd5 hn5 hz5 hp5 hge hle hv5 hl5
      go_wp2_with fail
      refine (cut_any wr false A5 c5 l5 HC5.out HC6.out HD5.out hl6).mono ?_
      rintro e w9 ⟨v, rfl, hv, hb⟩
      rw [if_neg (by decide), HV5.out] at hv
      replace HX4 := Aside0.mk (blk_below HX4.out hb)
      replace HB := Aside0.mk (below_step HB.out hb)
      clear hb HX2 HX3 x20 x21 x51
      obtain ⟨ng, A7, n7, c7, rfl⟩ := hv.form
      have HV := Aside0.mk hv
      have c0 : w9.cell? ⟨b4, 0, none⟩ = some (.bool false) := (blk_cell HX4.out 0).trans rfl
      have c1 : w9.cell? ⟨b4, 1, none⟩ = some (.slice none 0 0) := (blk_cell HX4.out 1).trans rfl
      have f0 := blk_frozen HX4.out 0
      have f1 := blk_frozen HX4.out 1
      clear hv
      go_wp2_with fail
      obtain ⟨r0, r1, hv, hB⟩ := store_big HX4.out g4 HB.out HV.out
      generalize (w9.setCell ⟨b4, 0, none⟩ (.bool ng)).setCell ⟨b4, 1, none⟩ (.slice A7 n7 c7) = W at r0 r1 hv hB ⊢
      clear c0 c1 f0 f1
      refine ⟨rfl, .agg #[.bool ng, .slice A7 n7 c7], ?_, _, rfl, hv, hB⟩
      simp [results, Tryd.results37, go_sem, r0, r1]
    | succ i =>
      have ei : (((i + 1 : Nat) : Int) - 1) = (i : Int) := by omega
      rw [ei]
      have q0 : decide ((0 : Int) ≤ (i : Int)) = true := decide_eq_true (Int.natCast_nonneg _)
      have hq : i / 16 < la.length := by omega
      have p0 : (0 : Int) ≤ ((i / 16 : Nat) : Int) := Int.natCast_nonneg _
      have p1 : ((i / 16 : Nat) : Int) < (la.length : Int) := Int.ofNat_lt.2 hq
      obtain ⟨ad, rfl, hx⟩ := Kd.at_int HCA.out ((i / 16 : Nat) : Int) p0 p1
      rw [Int.toNat_natCast] at hx
      have hx2 := pw_cell_below HB.out hx
      have t1 : Int.tdiv (i : Int) 16 = ((i / 16 : Nat) : Int) := by rw [Int.tdiv_eq_ediv_of_nonneg (Int.natCast_nonneg _)]; rfl
      have t2 : wrap64 ((i / 16 : Nat) : Int) = ((i / 16 : Nat) : Int) := w64 (by omega) (by have := HL5.out; omega)
      have t3 : Int.tmod (i : Int) 16 = ((i % 16 : Nat) : Int) := by rw [Int.tmod_eq_emod_of_nonneg (Int.natCast_nonneg _)]; rfl
      obtain ⟨d, hd⟩ : ∃ d, d = rd la ((i / 16 : Nat) : Int) := ⟨_, rfl⟩
      have hdr := HDA.out.rd (i / 16)
      rw [← hd] at hx2 hdr
      have HDD := Aside0.mk hd
      obtain ⟨qi, hqi⟩ : ∃ qi : Int, qi = ((i / 16 : Nat) : Int) := ⟨_, rfl⟩
      have z1 : qi.toNat = i / 16 := by rw [hqi, Int.toNat_natCast]
      rw [← hqi] at p0 p1 t1 t2
      have p2 := eq_true p0
      have p3 := eq_true p1
      clear hd hqi ei hx hq
      go_wp2_with fail
      have HX2A := Aside0.mk hx2
      clear hx2 p0 p1 p2 p3 t1 t2 z1 x21 q0
      obtain ⟨r, hr⟩ : ∃ r, r = i % 16 := ⟨_, rfl⟩
      rw [← hr] at t3
      have HRR := Aside0.mk hr
      have hr16 : r < 16 := by omega
      clear hr
      go_loopw [8, 9] (fun v8 v9 ws => ws = wr ∧ ∃ k : Nat, k ≤ r ∧ v9 = .int .i64 k ∧ v8 = .int .u64 (hf d k)) (fun _ v9 _ => r - (intOf v9).toNat)
      case atStart => exact ⟨rfl, 0, Nat.zero_le _, rfl, rfl⟩
      case round =>
        obtain ⟨rfl, k, hk, rfl, rfl⟩ := hrel
        have hin := hf_in d hdr k
        by_cases hkr : k < r
        · have q1 : decide ((k : Int) < (r : Int)) = true := decide_eq_true (Int.ofNat_lt.2 hkr)
          have q2 : wrap64 ((k : Int) + 1) = ((k + 1 : Nat) : Int) := cast_succ k (by omega)
          have q3 : Int.tdiv (hf d k) 2 = hf d (k + 1) := Int.tdiv_eq_ediv_of_nonneg hin.1
          have q4 : IntKind.u64.wrap (hf d (k + 1)) = hf d (k + 1) := by have := hf_in d hdr (k + 1); exact u64 this.1 (by omega)
          have hk8 : k + 1 ≤ r := hkr
          obtain ⟨y, hy⟩ : ∃ y, y = hf d k := ⟨_, rfl⟩
          obtain ⟨y2, hy2⟩ : ∃ y2, y2 = hf d (k + 1) := ⟨_, rfl⟩
          rw [← hy, ← hy2] at q3
          rw [← hy2] at q4
          rw [← hy]
          have HY2 := Aside0.mk hy2
          have Q2 := Aside0.mk q2
          clear hin hy hy2 q2 hk
          go_wp2_with fail
          go_roundw
          case rel => exact ⟨trivial, k + 1, hk8, rfl, by rw [HY2.out]⟩
          case measure =>
            show r - (((k + 1 : Nat) : Int)).toNat < r - ((k : Nat) : Int).toNat
            simp only [Int.toNat_natCast]
            exact meas hkr
        · have hk2 : k = r := Nat.le_antisymm hk (Nat.le_of_not_lt hkr)
          subst hk2
          have q1 : decide ((k : Int) < (k : Int)) = false := decide_eq_false (Int.lt_irrefl _)
          obtain ⟨x, hx⟩ : ∃ x, x = hf d k := ⟨_, rfl⟩
          have hbit : x % 2 = bitOf la i := by
            have h := hf_bit la i
            rw [← HDD.out, ← HRR.out, ← hx] at h
            exact h
          rw [← hx] at hin
          have q5 : Int.tmod x 2 = bitOf la i := by rw [Int.tmod_eq_emod_of_nonneg hin.1, hbit]
          have hb01 := bitOf_in la i
          have hstep := top_step la HDA.out i
          obtain ⟨T, hT⟩ : ∃ T, T = top la (i + 1) := ⟨_, rfl⟩
          obtain ⟨bt, hbt⟩ : ∃ bt, bt = bitOf la i := ⟨_, rfl⟩
          rw [← hT, ← hbt] at hstep
          rw [← hbt] at q5 hb01
          rw [← hT] at H5 H6
          rw [← hx]
          have htop := top_in la HDA.out (i + 1)
          rw [← hT, HZ.out] at htop
          have HTT := Aside0.mk hT
          have HBT := Aside0.mk hbt
          have HTI := Aside0.mk htop
          clear hx hbit hin hkr hk hT hbt htop
          have hT0 : 0 ≤ T % b ∧ T % b < b := ⟨Int.emod_nonneg _ (by have := HB0.out; omega), Int.emod_lt_of_pos _ HB0.out⟩
          have HST := Aside0.mk hstep
          have HT0 := Aside0.mk hT0
          have HB1 := Aside0.mk hb01
          have HQ5 := Aside0.mk q5
          obtain ⟨L, hL⟩ : ∃ L, L = T % b := ⟨_, rfl⟩
          rw [← hL] at HT0 H6
          have HL := Aside0.mk hL
          clear hstep hT0 hb01 hL
          obtain ⟨nl, AL, ml, cl, xl, vl⟩ := H6.out
          have y0 : wr.cell? ⟨b6, 0, none⟩ = some (.bool nl) := (blk_cell xl 0).trans rfl
          have y1 : wr.cell? ⟨b6, 1, none⟩ = some (.slice AL ml cl) := (blk_cell xl 1).trans rfl
          have VL := Aside0.mk vl
          clear xl vl
          go_wp2_with fail
          have hs1 : Small L := by have h1 := HT0.out; have h2 := HSB.out; unfold Small; omega
          refine (add_any wr _ _ L L VL.out VL.out hs1 hs1).mono ?_
          rintro e w3 ⟨v3, rfl, hv, hb⟩
          have V3 := Aside0.mk hv
          replace H5 := Aside0.mk (H5.out.below hb)
          replace H6 := Aside0.mk (H6.out.below hb)
          replace HX2 := Aside0.mk (blk_below HX2.out hb)
          replace HX3 := Aside0.mk (blk_below HX3.out hb)
          replace HX4 := Aside0.mk (blk_below HX4.out hb)
          replace HB := Aside0.mk (below_step HB.out hb)
          clear hv hb y0 y1 VL
          go_wp2_with fail
          refine (natural_any w3 bt HB1.out.1 (Int.lt_of_le_of_lt HB1.out.2 (by decide))).mono ?_
          rintro e w4 ⟨v4, rfl, hv, hb⟩
          have V4 := Aside0.mk hv
          replace V3 := Aside0.mk (V3.out.below hb)
          replace H5 := Aside0.mk (H5.out.below hb)
          replace H6 := Aside0.mk (H6.out.below hb)
          replace HX2 := Aside0.mk (blk_below HX2.out hb)
          replace HX3 := Aside0.mk (blk_below HX3.out hb)
          replace HX4 := Aside0.mk (blk_below HX4.out hb)
          replace HB := Aside0.mk (below_step HB.out hb)
          clear hv hb
          go_wp2_with fail
          have hs2 : Small (L + L) := by have h1 := HT0.out; have h2 := HSB.out; unfold Small; omega
          have hs3 : Small bt := by have := HB1.out; unfold Small; omega
          refine (add_any w4 _ _ (L + L) bt V3.out V4.out hs2 hs3).mono ?_
          rintro e w5 ⟨v5, rfl, hv, hb⟩
          obtain ⟨n5, A5, m5, c5, rfl⟩ := hv.form
          have V5 := Aside0.mk hv
          replace H5 := Aside0.mk (H5.out.below hb)
          replace H6 := Aside0.mk (H6.out.below hb)
          replace HX2 := Aside0.mk (blk_below HX2.out hb)
          replace HX3 := Aside0.mk (blk_below HX3.out hb)
          replace HX4 := Aside0.mk (blk_below HX4.out hb)
          replace HB := Aside0.mk (below_step HB.out hb)
          clear hv hb V3 V4
          obtain ⟨nl2, AL2, ml2, cl2, xl, vl⟩ := H6.out
          have XL := Aside0.mk xl
          have y0 : w5.cell? ⟨b6, 0, none⟩ = some (.bool nl2) := (blk_cell xl 0).trans rfl
          have y1 : w5.cell? ⟨b6, 1, none⟩ = some (.slice AL2 ml2 cl2) := (blk_cell xl 1).trans rfl
          have yf0 := blk_frozen xl 0
          have yf1 := blk_frozen xl 1
          clear xl vl H6
          go_upto_region 11 with fail
          obtain ⟨k1, k2, k3, k4⟩ := bx_store (w0 := w) (ng := n5) (s := .slice A5 m5 c5) rfl XL.out g6 HB.out
          have N6 := Aside0.mk (show Bx ((w5.setCell ⟨b6, 0, none⟩ (.bool n5)).setCell ⟨b6, 1, none⟩ (.slice A5 m5 c5)) b6 (L + L + bt) from ⟨n5, A5, m5, c5, k1, k2 _ _ V5.out⟩)
          have N5 := Aside0.mk (k3 b5 _ d56 H5.out)
          have NX2 := Aside0.mk (blk_far (blk_far HX2.out (p := ⟨b6, 0, none⟩) n25.2.2.1 (.bool n5)) (p := ⟨b6, 1, none⟩) n25.2.2.1 (.slice A5 m5 c5))
          have NX3 := Aside0.mk (blk_far (blk_far HX3.out (p := ⟨b6, 0, none⟩) n25.2.2.2 (.bool n5)) (p := ⟨b6, 1, none⟩) n25.2.2.2 (.slice A5 m5 c5))
          have NX4 := Aside0.mk (blk_far (blk_far HX4.out (p := ⟨b6, 0, none⟩) d46 (.bool n5)) (p := ⟨b6, 1, none⟩) d46 (.slice A5 m5 c5))
          have NB := Aside0.mk k4
          clear k1 k2 k3 k4 y0 y1 yf0 yf1 XL V5 H5 HX2 HX3 HX4 HB
          generalize (w5.setCell ⟨b6, 0, none⟩ (.bool n5)).setCell ⟨b6, 1, none⟩ (.slice A5 m5 c5) = w6 at N6 N5 NX2 NX3 NX4 NB ⊢
          have H6 := N6
          have H5 := N5
          have HX2 := NX2
          have HX3 := NX3
          have HX4 := NX4
          have HB := NB
          clear N6 N5 NX2 NX3 NX4 NB
          obtain ⟨Q, hQ⟩ : ∃ Q, Q = T / b := ⟨_, rfl⟩
          rw [← hQ] at H5
          have HQ := Aside0.mk hQ
          clear hQ
          obtain ⟨nq, AQ, mq, cq, xq, vq⟩ := H5.out
          have XQ := Aside0.mk xq
          have VQ := Aside0.mk vq
          have y0 : w6.cell? ⟨b5, 0, none⟩ = some (.bool nq) := (blk_cell xq 0).trans rfl
          have y1 : w6.cell? ⟨b5, 1, none⟩ = some (.slice AQ mq cq) := (blk_cell xq 1).trans rfl
          clear xq vq
          have hsq : Small Q := by
            have h1 := HTI.out
            have h2 := HSA.out
            have h3 := Int.ediv_nonneg h1.1 (Int.le_of_lt HB0.out)
            have h4 := Int.ediv_le_self b h1.1
            rw [← HQ.out] at h3 h4
            unfold Small at h2 ⊢
            omega
          go_wp2_with fail
          refine (add_any w6 _ _ Q Q VQ.out VQ.out hsq hsq).mono ?_
          rintro e w7 ⟨v7, rfl, hv, hb⟩
          obtain ⟨n5, A5, m5, c5, rfl⟩ := hv.form
          have V5 := Aside0.mk hv
          replace H5 := Aside0.mk (H5.out.below hb)
          replace H6 := Aside0.mk (H6.out.below hb)
          replace HX2 := Aside0.mk (blk_below HX2.out hb)
          replace HX3 := Aside0.mk (blk_below HX3.out hb)
          replace HX4 := Aside0.mk (blk_below HX4.out hb)
          replace XQ := Aside0.mk (blk_below XQ.out hb)
          replace HB := Aside0.mk (below_step HB.out hb)
          clear hv hb VQ y0 y1 H5
          have y0 : w7.cell? ⟨b5, 0, none⟩ = some (.bool nq) := (blk_cell XQ.out 0).trans rfl
          have y1 : w7.cell? ⟨b5, 1, none⟩ = some (.slice AQ mq cq) := (blk_cell XQ.out 1).trans rfl
          have yf0 := blk_frozen XQ.out 0
          have yf1 := blk_frozen XQ.out 1
          go_upto_region 12 with fail
          obtain ⟨k1, k2, k3, k4⟩ := bx_store (w0 := w) (ng := n5) (s := .slice A5 m5 c5) rfl XQ.out g5 HB.out
          have N5 := Aside0.mk (show Bx ((w7.setCell ⟨b5, 0, none⟩ (.bool n5)).setCell ⟨b5, 1, none⟩ (.slice A5 m5 c5)) b5 (Q + Q) from ⟨n5, A5, m5, c5, k1, k2 _ _ V5.out⟩)
          have N6 := Aside0.mk (k3 b6 _ (Ne.symm d56) H6.out)
          have NX2 := Aside0.mk (blk_far (blk_far HX2.out (p := ⟨b5, 0, none⟩) n25.1 (.bool n5)) (p := ⟨b5, 1, none⟩) n25.1 (.slice A5 m5 c5))
          have NX3 := Aside0.mk (blk_far (blk_far HX3.out (p := ⟨b5, 0, none⟩) n25.2.1 (.bool n5)) (p := ⟨b5, 1, none⟩) n25.2.1 (.slice A5 m5 c5))
          have NX4 := Aside0.mk (blk_far (blk_far HX4.out (p := ⟨b5, 0, none⟩) d45 (.bool n5)) (p := ⟨b5, 1, none⟩) d45 (.slice A5 m5 c5))
          have NB := Aside0.mk k4
          clear k1 k2 k3 k4 y0 y1 yf0 yf1 XQ V5 H6 HX2 HX3 HX4 HB
          generalize (w7.setCell ⟨b5, 0, none⟩ (.bool n5)).setCell ⟨b5, 1, none⟩ (.slice A5 m5 c5) = w8 at N6 N5 NX2 NX3 NX4 NB ⊢
          have H6 := N6
          have H5 := N5
          have HX2 := NX2
          have HX3 := NX3
          have HX4 := NX4
          have HB := NB
          clear N6 N5 NX2 NX3 NX4 NB
          obtain ⟨nl3, AL3, ml3, cl3, xl, vl⟩ := H6.out
          have XL := Aside0.mk xl
          have VL := Aside0.mk vl
          have y0 : w8.cell? ⟨b6, 0, none⟩ = some (.bool nl3) := (blk_cell xl 0).trans rfl
          have y1 : w8.cell? ⟨b6, 1, none⟩ = some (.slice AL3 ml3 cl3) := (blk_cell xl 1).trans rfl
          have x30 : w8.cell? ⟨b3, 0, none⟩ = some (.bool nb) := (blk_cell HX3.out 0).trans rfl
          have x31 : w8.cell? ⟨b3, 1, none⟩ = some (.slice B m cb) := (blk_cell HX3.out 1).trans rfl
          clear xl vl
          have hsl : Small (L + L + bt) := by have h1 := HT0.out; have h2 := HSB.out; have h3 := HB1.out; unfold Small; omega
          have hsb : Small b := by have h1 := HB0.out; have h2 := HSB.out; unfold Small; omega
          have HSL := Aside0.mk hsl
          have HSS := Aside0.mk hsb
          clear hsl hsb hsq
          go_wp2_with fail
          refine (cmp_any w8 _ _ (L + L + bt) b VL.out (HVB.out.below HB.out) HSL.out HSS.out).mono ?_
          rintro e w9 ⟨rfl, hb⟩
          replace H5 := Aside0.mk (H5.out.below hb)
          replace H6 := Aside0.mk (H6.out.below hb)
          replace HX2 := Aside0.mk (blk_below HX2.out hb)
          replace HX3 := Aside0.mk (blk_below HX3.out hb)
          replace HX4 := Aside0.mk (blk_below HX4.out hb)
          replace HB := Aside0.mk (below_step HB.out hb)
          clear hb VL y0 y1 x30 x31 XL
          have hround := down_round T b bt HB0.out HB1.out
          rw [← HST.out, ← HQ.out, ← HL.out] at hround
          have wi : wrap64 ((i : Int) - 1) = (i : Int) - 1 := by have := HL5.out; exact w64 (by omega) (by omega)
          have WI := Aside0.mk wi
          have hi5 : i ≤ 16 * la.length := by omega
          by_cases hge : b ≤ 2 * L + bt
          · rw [if_pos hge, if_pos hge] at hround
            have hcv : decide (0 ≤ cmpv (L + L + bt - b)) = true := decide_eq_true (by unfold cmpv; split; omega; split <;> omega)
            have E1 := Aside0.mk (show top la i / b = Q + Q + 1 by rw [hround.1]; omega)
            have E2 := Aside0.mk (show top la i % b = L + L + bt - b by rw [hround.2]; omega)
            clear hround hge wi
            obtain ⟨nl4, AL4, ml4, cl4, xl, vl⟩ := H6.out
            have XL := Aside0.mk xl
            have VL := Aside0.mk vl
            have y0 : w9.cell? ⟨b6, 0, none⟩ = some (.bool nl4) := (blk_cell xl 0).trans rfl
            have y1 : w9.cell? ⟨b6, 1, none⟩ = some (.slice AL4 ml4 cl4) := (blk_cell xl 1).trans rfl
            have x30 : w9.cell? ⟨b3, 0, none⟩ = some (.bool nb) := (blk_cell HX3.out 0).trans rfl
            have x31 : w9.cell? ⟨b3, 1, none⟩ = some (.slice B m cb) := (blk_cell HX3.out 1).trans rfl
            clear xl vl
            go_wp2_with fail
            refine (sub_any w9 _ _ (L + L + bt) b VL.out (HVB.out.below HB.out) HSL.out HSS.out).mono ?_
            rintro e wa ⟨va, rfl, hv, hb⟩
            obtain ⟨n5, A5, m5, c5, rfl⟩ := hv.form
            have V5 := Aside0.mk hv
            replace H5 := Aside0.mk (H5.out.below hb)
            replace HX2 := Aside0.mk (blk_below HX2.out hb)
            replace HX3 := Aside0.mk (blk_below HX3.out hb)
            replace HX4 := Aside0.mk (blk_below HX4.out hb)
            replace HB := Aside0.mk (below_step HB.out hb)
            replace XL := Aside0.mk (blk_below XL.out hb)
            clear hv hb VL y0 y1 x30 x31 H6
            have y0 : wa.cell? ⟨b6, 0, none⟩ = some (.bool nl4) := (blk_cell XL.out 0).trans rfl
            have y1 : wa.cell? ⟨b6, 1, none⟩ = some (.slice AL4 ml4 cl4) := (blk_cell XL.out 1).trans rfl
            have yf0 := blk_frozen XL.out 0
            have yf1 := blk_frozen XL.out 1
            go_upto_region 14 with fail
            obtain ⟨k1, k2, k3, k4⟩ := bx_store (w0 := w) (ng := n5) (s := .slice A5 m5 c5) rfl XL.out g6 HB.out
            have N6 := Aside0.mk (show Bx ((wa.setCell ⟨b6, 0, none⟩ (.bool n5)).setCell ⟨b6, 1, none⟩ (.slice A5 m5 c5)) b6 (L + L + bt - b) from ⟨n5, A5, m5, c5, k1, k2 _ _ V5.out⟩)
            have N5 := Aside0.mk (k3 b5 _ d56 H5.out)
            have NX2 := Aside0.mk (blk_far (blk_far HX2.out (p := ⟨b6, 0, none⟩) n25.2.2.1 (.bool n5)) (p := ⟨b6, 1, none⟩) n25.2.2.1 (.slice A5 m5 c5))
            have NX3 := Aside0.mk (blk_far (blk_far HX3.out (p := ⟨b6, 0, none⟩) n25.2.2.2 (.bool n5)) (p := ⟨b6, 1, none⟩) n25.2.2.2 (.slice A5 m5 c5))
            have NX4 := Aside0.mk (blk_far (blk_far HX4.out (p := ⟨b6, 0, none⟩) d46 (.bool n5)) (p := ⟨b6, 1, none⟩) d46 (.slice A5 m5 c5))
            have NB := Aside0.mk k4
            clear k1 k2 k3 k4 y0 y1 yf0 yf1 XL V5 H5 HX2 HX3 HX4 HB
            generalize (wa.setCell ⟨b6, 0, none⟩ (.bool n5)).setCell ⟨b6, 1, none⟩ (.slice A5 m5 c5) = wb at N6 N5 NX2 NX3 NX4 NB ⊢
            have H6 := N6
            have HX2 := NX2
            have HX3 := NX3
            have HX4 := NX4
            have HB := NB
            obtain ⟨nq2, AQ2, mq2, cq2, xq, vq⟩ := N5.out
            have XQ := Aside0.mk xq
            have VQ := Aside0.mk vq
            clear N6 N5 NX2 NX3 NX4 NB xq vq
            have hs5 : Small (Q + Q) := by
              have h1 := HTI.out
              have h2 := HSA.out
              have h3 := HST.out
              have h4 := (top_in la HDA.out i)
              have h5 := Int.ediv_le_self b h4.1
              have h6 := E1.out
              have h7 := Int.ediv_nonneg h1.1 (Int.le_of_lt HB0.out)
              rw [← HQ.out] at h7
              rw [HZ.out] at h4
              rw [h6] at h5
              unfold Small at h2 ⊢
              omega
            refine start_ (n := 4) (S := fun _ => True) (ds := []) #[false, false, false, false] (by kernel_rfl) rfl rfl trivial (fun hHeld => ?_)
            replace HX2 := Aside0.mk (blk_drew HX2.out)
            replace HX3 := Aside0.mk (blk_drew HX3.out)
            replace HX4 := Aside0.mk (blk_drew HX4.out)
            replace XQ := Aside0.mk (blk_drew XQ.out)
            have HHB := Aside0.mk (show Below wb.heap.size wb wb.drew from below_drew (Below.refl _ _))
            replace H6 := Aside0.mk (H6.out.below HHB.out)
            replace VQ := Aside0.mk (VQ.out.below HHB.out)
            clear HHB
            replace HB := Aside0.mk (below_drew HB.out)
            generalize wb.drew = Wd at HX2 HX3 HX4 XQ H6 VQ HB ⊢
            refine two_ (i := 0) (j := 1) (Ni := some 52) (Nj := some 53) #[true, false, false, false] #[false, true, false, false] rfl rfl rfl rfl (by kernel_rfl) (by decide) (by decide) (fun K hK => ?_) (fun K hK => ?_)
            · skip
              have y0 : Wd.cell? ⟨b5, 0, none⟩ = some (.bool nq2) := (blk_cell XQ.out 0).trans rfl
              have y1 : Wd.cell? ⟨b5, 1, none⟩ = some (.slice AQ2 mq2 cq2) := (blk_cell XQ.out 1).trans rfl
              refine value_ (w1 := Wd) (v := .agg #[.bool nq2, .slice AQ2 mq2 cq2]) (by rfl) rfl (by first | (go_simp; done) | (go_simp; rfl)) ?_
              refine hK.out _ _ trivial (fun hHeld => ?_)
              clear y0 y1
              clear hK K
              refine norm_ (a' := ?_) ?_ ?_
              rotate_left
              · show Act.put _ (some 52) _ = _
                simp only [Act.put, List.setIfInBounds_toArray, List.set_cons_zero, List.set_cons_succ, i64_w, i32_w]
                rfl
              refine one_ (i := 1) (N := some 53) #[true, true, false, false] rfl rfl (by kernel_rfl) (by decide) (fun K hK => ?_)
              refine goes_ Tryd.func24 (by kernel_rfl) rfl #[.int .i64 1] (by rfl) rfl rfl (by (try simp only [List.map_toArray, List.map_cons, List.map_nil]); first | done | rfl) ?_
              refine (of_any Wd 1 (by decide) (by decide)).mono ?_
              rintro e We ⟨v8, rfl, hv, hb⟩
              replace HX2 := Aside0.mk (blk_below HX2.out hb)
              replace HX3 := Aside0.mk (blk_below HX3.out hb)
              replace HX4 := Aside0.mk (blk_below HX4.out hb)
              replace XQ := Aside0.mk (blk_below XQ.out hb)
              replace H6 := Aside0.mk (H6.out.below hb)
              replace VQ := Aside0.mk (VQ.out.below hb)
              replace HB := Aside0.mk (below_step HB.out hb)
              have V8 := Aside0.mk hv
              clear hv
              clear hb
              refine ⟨_, rfl, ?_⟩
              refine hK.out _ _ trivial (fun hHeld => ?_)
              clear hK K
              refine norm_ (a' := ?_) ?_ ?_
              rotate_left
              · show Act.put _ (some 53) _ = _
                simp only [Act.put, List.setIfInBounds_toArray, List.set_cons_zero, List.set_cons_succ, i64_w, i32_w]
                rfl
              refine one_ (i := 2) (N := some 54) #[true, true, true, false] rfl rfl (by kernel_rfl) (by decide) (fun K hK => ?_)
              refine goes_ Tryd.func38 (by kernel_rfl) rfl #[.agg #[.bool nq2, .slice AQ2 mq2 cq2], v8] (by rfl) rfl rfl (by (try simp only [List.map_toArray, List.map_cons, List.map_nil]); first | done | rfl) ?_
              refine (add_any We _ v8 (Q + Q) 1 VQ.out V8.out hs5 (by unfold Small; decide)).mono ?_
              rintro e Wf ⟨v9, rfl, hv, hb⟩
              replace HX2 := Aside0.mk (blk_below HX2.out hb)
              replace HX3 := Aside0.mk (blk_below HX3.out hb)
              replace HX4 := Aside0.mk (blk_below HX4.out hb)
              replace XQ := Aside0.mk (blk_below XQ.out hb)
              replace H6 := Aside0.mk (H6.out.below hb)
              replace VQ := Aside0.mk (VQ.out.below hb)
              replace HB := Aside0.mk (below_step HB.out hb)
              have V9 := Aside0.mk hv
              clear hv V8
              clear hb
              refine ⟨_, rfl, ?_⟩
              refine hK.out _ _ trivial (fun hHeld => ?_)
              clear hK K
              refine norm_ (a' := ?_) ?_ ?_
              rotate_left
              · show Act.put _ (some 54) _ = _
                simp only [Act.put, List.setIfInBounds_toArray, List.set_cons_zero, List.set_cons_succ, i64_w, i32_w]
                rfl
              obtain ⟨n9, A9, m9, c9, rfl⟩ := V9.out.form
              have y0 : Wf.cell? ⟨b5, 0, none⟩ = some (.bool nq2) := (blk_cell XQ.out 0).trans rfl
              have y1 : Wf.cell? ⟨b5, 1, none⟩ = some (.slice AQ2 mq2 cq2) := (blk_cell XQ.out 1).trans rfl
              have yf0 := blk_frozen XQ.out 0
              have yf1 := blk_frozen XQ.out 1
              refine one_ (i := 3) (N := none) #[true, true, true, true] rfl rfl (by kernel_rfl) (by decide) (fun K hK => ?_)
              refine skip_ (w1 := (Wf.setCell ⟨b5, 0, none⟩ (.bool n9)).setCell ⟨b5, 1, none⟩ (.slice A9 m9 c9)) (by rfl) rfl (by first | (go_simp; done) | (go_simp; rfl)) ?_
              obtain ⟨k1, k2, k3, k4⟩ := bx_store (w0 := w) (ng := n9) (s := .slice A9 m9 c9) rfl XQ.out g5 HB.out
              have N5 := Aside0.mk (show Bx ((Wf.setCell ⟨b5, 0, none⟩ (.bool n9)).setCell ⟨b5, 1, none⟩ (.slice A9 m9 c9)) b5 (Q + Q + 1) from ⟨n9, A9, m9, c9, k1, k2 _ _ V9.out⟩)
              have N6 := Aside0.mk (k3 b6 _ (Ne.symm d56) H6.out)
              have NX2 := Aside0.mk (blk_far (blk_far HX2.out (p := ⟨b5, 0, none⟩) n25.1 (.bool n9)) (p := ⟨b5, 1, none⟩) n25.1 (.slice A9 m9 c9))
              have NX3 := Aside0.mk (blk_far (blk_far HX3.out (p := ⟨b5, 0, none⟩) n25.2.1 (.bool n9)) (p := ⟨b5, 1, none⟩) n25.2.1 (.slice A9 m9 c9))
              have NX4 := Aside0.mk (blk_far (blk_far HX4.out (p := ⟨b5, 0, none⟩) d45 (.bool n9)) (p := ⟨b5, 1, none⟩) d45 (.slice A9 m9 c9))
              have NB := Aside0.mk k4
              have XN := Aside0.mk k1
              clear k1 k2 k3 k4 y0 y1 yf0 yf1 H6 VQ V9 HX2 HX3 HX4 HB XQ
              generalize (Wf.setCell ⟨b5, 0, none⟩ (.bool n9)).setCell ⟨b5, 1, none⟩ (.slice A9 m9 c9) = WS at N6 N5 NX2 NX3 NX4 NB XN ⊢
              have XQ := XN
              refine hK.out _ _ trivial (fun hHeld => ?_)
              clear hK K XQ
              refine done_ (by kernel_rfl) ?_
              go_wp2_with fail
              go_roundw
              case rel => exact ⟨i, hi5, by rw [WI.out], ⟨by rw [E1.out]; exact N5.out⟩, ⟨by rw [E2.out]; exact N6.out⟩, NX2, NX3, NX4, NB⟩
              case measure =>
                rw [WI.out]
                simp only [intOf]
                omega
            · skip
              refine goes_ Tryd.func24 (by kernel_rfl) rfl #[.int .i64 1] (by rfl) rfl rfl (by (try simp only [List.map_toArray, List.map_cons, List.map_nil]); first | done | rfl) ?_
              refine (of_any Wd 1 (by decide) (by decide)).mono ?_
              rintro e We ⟨v8, rfl, hv, hb⟩
              replace HX2 := Aside0.mk (blk_below HX2.out hb)
              replace HX3 := Aside0.mk (blk_below HX3.out hb)
              replace HX4 := Aside0.mk (blk_below HX4.out hb)
              replace XQ := Aside0.mk (blk_below XQ.out hb)
              replace H6 := Aside0.mk (H6.out.below hb)
              replace VQ := Aside0.mk (VQ.out.below hb)
              replace HB := Aside0.mk (below_step HB.out hb)
              have V8 := Aside0.mk hv
              clear hv
              clear hb
              refine ⟨_, rfl, ?_⟩
              refine hK.out _ _ trivial (fun hHeld => ?_)
              clear hK K
              refine norm_ (a' := ?_) ?_ ?_
              rotate_left
              · show Act.put _ (some 53) _ = _
                simp only [Act.put, List.setIfInBounds_toArray, List.set_cons_zero, List.set_cons_succ, i64_w, i32_w]
                rfl
              refine one_ (i := 0) (N := some 52) #[true, true, false, false] rfl rfl (by kernel_rfl) (by decide) (fun K hK => ?_)
              have y0 : We.cell? ⟨b5, 0, none⟩ = some (.bool nq2) := (blk_cell XQ.out 0).trans rfl
              have y1 : We.cell? ⟨b5, 1, none⟩ = some (.slice AQ2 mq2 cq2) := (blk_cell XQ.out 1).trans rfl
              refine value_ (w1 := We) (v := .agg #[.bool nq2, .slice AQ2 mq2 cq2]) (by rfl) rfl (by first | (go_simp; done) | (go_simp; rfl)) ?_
              refine hK.out _ _ trivial (fun hHeld => ?_)
              clear y0 y1
              clear hK K
              refine norm_ (a' := ?_) ?_ ?_
              rotate_left
              · show Act.put _ (some 52) _ = _
                simp only [Act.put, List.setIfInBounds_toArray, List.set_cons_zero, List.set_cons_succ, i64_w, i32_w]
                rfl
              refine one_ (i := 2) (N := some 54) #[true, true, true, false] rfl rfl (by kernel_rfl) (by decide) (fun K hK => ?_)
              refine goes_ Tryd.func38 (by kernel_rfl) rfl #[.agg #[.bool nq2, .slice AQ2 mq2 cq2], v8] (by rfl) rfl rfl (by (try simp only [List.map_toArray, List.map_cons, List.map_nil]); first | done | rfl) ?_
              refine (add_any We _ v8 (Q + Q) 1 VQ.out V8.out hs5 (by unfold Small; decide)).mono ?_
              rintro e Wf ⟨v9, rfl, hv, hb⟩
              replace HX2 := Aside0.mk (blk_below HX2.out hb)
              replace HX3 := Aside0.mk (blk_below HX3.out hb)
              replace HX4 := Aside0.mk (blk_below HX4.out hb)
              replace XQ := Aside0.mk (blk_below XQ.out hb)
              replace H6 := Aside0.mk (H6.out.below hb)
              replace VQ := Aside0.mk (VQ.out.below hb)
              replace HB := Aside0.mk (below_step HB.out hb)
              have V9 := Aside0.mk hv
              clear hv V8
              clear hb
              refine ⟨_, rfl, ?_⟩
              refine hK.out _ _ trivial (fun hHeld => ?_)
              clear hK K
              refine norm_ (a' := ?_) ?_ ?_
              rotate_left
              · show Act.put _ (some 54) _ = _
                simp only [Act.put, List.setIfInBounds_toArray, List.set_cons_zero, List.set_cons_succ, i64_w, i32_w]
                rfl
              obtain ⟨n9, A9, m9, c9, rfl⟩ := V9.out.form
              have y0 : Wf.cell? ⟨b5, 0, none⟩ = some (.bool nq2) := (blk_cell XQ.out 0).trans rfl
              have y1 : Wf.cell? ⟨b5, 1, none⟩ = some (.slice AQ2 mq2 cq2) := (blk_cell XQ.out 1).trans rfl
              have yf0 := blk_frozen XQ.out 0
              have yf1 := blk_frozen XQ.out 1
              refine one_ (i := 3) (N := none) #[true, true, true, true] rfl rfl (by kernel_rfl) (by decide) (fun K hK => ?_)
              refine skip_ (w1 := (Wf.setCell ⟨b5, 0, none⟩ (.bool n9)).setCell ⟨b5, 1, none⟩ (.slice A9 m9 c9)) (by rfl) rfl (by first | (go_simp; done) | (go_simp; rfl)) ?_
              obtain ⟨k1, k2, k3, k4⟩ := bx_store (w0 := w) (ng := n9) (s := .slice A9 m9 c9) rfl XQ.out g5 HB.out
              have N5 := Aside0.mk (show Bx ((Wf.setCell ⟨b5, 0, none⟩ (.bool n9)).setCell ⟨b5, 1, none⟩ (.slice A9 m9 c9)) b5 (Q + Q + 1) from ⟨n9, A9, m9, c9, k1, k2 _ _ V9.out⟩)
              have N6 := Aside0.mk (k3 b6 _ (Ne.symm d56) H6.out)
              have NX2 := Aside0.mk (blk_far (blk_far HX2.out (p := ⟨b5, 0, none⟩) n25.1 (.bool n9)) (p := ⟨b5, 1, none⟩) n25.1 (.slice A9 m9 c9))
              have NX3 := Aside0.mk (blk_far (blk_far HX3.out (p := ⟨b5, 0, none⟩) n25.2.1 (.bool n9)) (p := ⟨b5, 1, none⟩) n25.2.1 (.slice A9 m9 c9))
              have NX4 := Aside0.mk (blk_far (blk_far HX4.out (p := ⟨b5, 0, none⟩) d45 (.bool n9)) (p := ⟨b5, 1, none⟩) d45 (.slice A9 m9 c9))
              have NB := Aside0.mk k4
              have XN := Aside0.mk k1
              clear k1 k2 k3 k4 y0 y1 yf0 yf1 H6 VQ V9 HX2 HX3 HX4 HB XQ
              generalize (Wf.setCell ⟨b5, 0, none⟩ (.bool n9)).setCell ⟨b5, 1, none⟩ (.slice A9 m9 c9) = WS at N6 N5 NX2 NX3 NX4 NB XN ⊢
              have XQ := XN
              refine hK.out _ _ trivial (fun hHeld => ?_)
              clear hK K XQ
              refine done_ (by kernel_rfl) ?_
              go_wp2_with fail
              go_roundw
              case rel => exact ⟨i, hi5, by rw [WI.out], ⟨by rw [E1.out]; exact N5.out⟩, ⟨by rw [E2.out]; exact N6.out⟩, NX2, NX3, NX4, NB⟩
              case measure =>
                rw [WI.out]
                simp only [intOf]
                omega
          · rw [if_neg hge, if_neg hge] at hround
            have hcv : decide (0 ≤ cmpv (L + L + bt - b)) = false := decide_eq_false (by unfold cmpv; split; omega; split <;> omega)
            have E1 := Aside0.mk (show top la i / b = Q + Q by rw [hround.1]; omega)
            have E2 := Aside0.mk (show top la i % b = L + L + bt by rw [hround.2]; omega)
            clear hround hge wi
            go_wp2_with fail
            go_roundw
            case rel => exact ⟨i, hi5, by rw [WI.out], ⟨by rw [E1.out]; exact H5.out⟩, ⟨by rw [E2.out]; exact H6.out⟩, HX2, HX3, HX4, HB⟩
            case measure =>
              rw [WI.out]
              simp only [intOf]
              omega


end Go.Proofs.YtofmingbmcinhaaDoor.Bg
