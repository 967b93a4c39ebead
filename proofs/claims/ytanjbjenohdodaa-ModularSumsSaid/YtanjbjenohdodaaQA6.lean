/- Products of the document, and what the law of them takes together. -/
import Derived.Test.YtanjbjenohdodaaBx0
import Derived.Test.YtanjbjenohdodaaBx7
import Derived.Test.YtanjbjenohdodaaBx8
import Derived.Test.YtanjbjenohdodaaQA5
namespace Go.Proofs.Ytanjbjenohdodaa.Q
open Go.RowKit Go.Proofs.Ytanjbjenohdodaa.B Go.Proofs.YtanjbjenohdodaaW.PrintWords Go.Proofs.YtanjbjenohdodaaW.PrintLast Go.Proofs.YtanjbjenohdodaaW.PrintMore
set_option linter.unusedVariables false
set_option linter.unusedSectionVars false

theorem rmul_idx (i j la lb lo d : Nat) (ha : la < 1099511627776) (hb : lb < 1099511627776) (hi : i < la) (hd : j + d = lb) (ho : lo = la + lb + 1) :
    wrap64 ((i : Int) + (j : Int)) = ((i + j : Nat) : Int) ∧ wrap64 ((j : Int) + 1) = ((j + 1 : Nat) : Int) ∧ (0 : Int) ≤ ((i + j : Nat) : Int) ∧ ((i + j : Nat) : Int) < (lo : Int) ∧ (0 : Int) ≤ (j : Int) := by
  refine ⟨w64 (by omega) (by omega), w64 (by omega) (by omega), ?_, ?_, ?_⟩ <;> omega
theorem prod16 {x y : Nat} (hx : x < 65536) (hy : y < 65536) : x * y ≤ 4294836225 := Nat.mul_le_mul (Nat.le_of_lt_succ hx) (Nat.le_of_lt_succ hy)
theorem rmul_num {x y o c : Nat} (hx : x < 65536) (hy : y < 65536) (ho : o < 65536) (hc : c < 65536) :
    wrap64 ((o + c : Nat) : Int) = ((o + c : Nat) : Int) ∧ wrap64 ((x * y : Nat) : Int) = ((x * y : Nat) : Int) ∧ wrap64 ((o + c + x * y : Nat) : Int) = ((o + c + x * y : Nat) : Int) ∧ (o + c + x * y) / 65536 < 65536 ∧ wrap64 (((o + c + x * y) / 65536 : Nat) : Int) = (((o + c + x * y) / 65536 : Nat) : Int) := by
  have hp := prod16 hx hy
  generalize x * y = p at *
  refine ⟨w64 (by omega) (by omega), w64 (by omega) (by omega), w64 (by omega) (by omega), by omega, w64 (by omega) (by omega)⟩
section
variable (a b : List Int) (hA : L16 a) (hB : L16 b) (ha : a.length < 1099511627776) (hb : b.length < 1099511627776)
include hA hB ha hb
theorem rMul_inner (i x : Nat) (V : Nat) (hi : i < a.length) (hxx : a.getD i 0 = (x : Int)) (hx : x < 65536) (r : List Int)
    (next : ∀ out : List Int, out.length = a.length + b.length + 1 → L16 out → vd out = V + 65536 ^ i * (x * vd b) → Ev (fun k => latchkeyref01_Mul.l0 k a b out ((i + 1 : Nat) : Int)) r) :
    ∀ (d j c : Nat) (out : List Int), j + d = b.length → out.length = a.length + b.length + 1 → L16 out → c < 65536 → out.getD (i + b.length) 0 = 0 →
    vd out + 65536 ^ (i + j) * c = V + 65536 ^ i * (x * low 65536 b j) →
    Ev (fun k => latchkeyref01_Mul.l1 k a b out (i : Int) (c : Int) (j : Int)) r := by
  have done : ∀ (j : Nat) (out : List Int), b.length ≤ j → out.length = a.length + b.length + 1 → L16 out → vd out = V + 65536 ^ i * (x * vd b) → Ev (fun k => latchkeyref01_Mul.l1 k a b out (i : Int) 0 (j : Int)) r := by
    intro j out hj ho hO hv
    refine Ev.step (f := fun k => latchkeyref01_Mul.j2 k a b out (i : Int) 0 (j : Int) false) (fun k => ?_) (Ev.step (f := fun k => latchkeyref01_Mul.l0 k a b out ((i + 1 : Nat) : Int)) (fun k => ?_) (next out ho hO hv))
    · simp only [latchkeyref01_Mul.l1]
      rw [if_neg (by omega)]
      rfl
    · simp only [latchkeyref01_Mul.j2]
      rw [if_neg (by decide), w64 (by omega) (by omega)]
      rfl
  intro d
  induction d with
  | zero =>
    intro j c out hd ho hO hc hz hv
    have hj : j = b.length := by omega
    subst hj
    rw [low_all _ b (Nat.le_refl _)] at hv
    rcases Nat.eq_zero_or_pos c with h0 | h0
    · subst h0
      exact done b.length out (Nat.le_refl _) ho hO hv
    · refine Ev.step (f := fun k => latchkeyref01_Mul.j2 k a b out (i : Int) (c : Int) (b.length : Int) true) (fun k => ?_) (Ev.step (f := fun k => latchkeyref01_Mul.l1 k a b (out.set (i + b.length) (c : Int)) (i : Int) 0 ((b.length + 1 : Nat) : Int)) (fun k => ?_) (done (b.length + 1) _ (Nat.le_succ _) (by rw [List.length_set]; exact ho) (Dig.set hO (by omega) (by omega)) ?_))
      · simp only [latchkeyref01_Mul.l1]
        rw [if_neg (by omega)]
        rw [show (decide ((c : Int) > 0)) = true from by simp; omega]
      · simp only [latchkeyref01_Mul.j2]
        rw [if_pos trivial, w64 (x := (i : Int) + (b.length : Int)) (by omega) (by omega), if_pos (by omega), if_pos (by omega), if_neg (by omega), show (i : Int) + (b.length : Int) = ((i + b.length : Nat) : Int) from by omega, rd_getD, hz, Int.toNat_natCast, Int.zero_add, w64 (x := (c : Int)) (by omega) (by omega), w64 (x := (b.length : Int) + 1) (by omega) (by omega)]
        rw [show Int.tmod (c : Int) 65536 = ((c % 65536 : Nat) : Int) from tmod_nat c 65536, show Int.tdiv (c : Int) 65536 = ((c / 65536 : Nat) : Int) from tdiv_nat c 65536, Nat.mod_eq_of_lt hc, Nat.div_eq_of_lt hc, show wrap64 ((0 : Nat) : Int) = 0 from w64 (by decide) (by decide)]
        rfl
      · have e := set_value (B := 65536) out (i + b.length) c 0 (by omega) hz
        rw [Nat.mul_zero, Nat.add_zero] at e
        exact e.trans hv
  | succ d IH =>
    intro j c out hd ho hO hc hz hv
    have HV := Aside0.mk hv
    clear hv
    have h65 : 0 < 65536 := Nat.succ_pos _
    obtain ⟨y, hy, hy2⟩ := getD_nat h65 hB j
    obtain ⟨o, hoo, ho2⟩ := getD_nat h65 hO (i + j)
    obtain ⟨f1, f2, f3, f4, f6⟩ := rmul_idx i j a.length b.length out.length (d + 1) ha hb hi hd ho
    have g1 : j < b.length := Nat.lt_of_lt_of_le (Nat.lt_succ_of_le (Nat.le_add_right j d)) (Nat.le_of_eq hd)
    have f5 : (j : Int) < (b.length : Int) := Int.ofNat_lt.2 g1
    have g2 : i + j < out.length := Int.ofNat_lt.1 f4
    obtain ⟨n1, n2, n3, n4, n5⟩ := rmul_num hx hy2 ho2 hc
    have em := Nat.div_add_mod (o + c + x * y) 65536
    refine Ev.step (f := fun k => latchkeyref01_Mul.j2 k a b out (i : Int) (c : Int) (j : Int) true) (fun k => ?_)
      (Ev.step (f := fun k => latchkeyref01_Mul.l1 k a b (out.set (i + j) (((o + c + x * y) % 65536 : Nat) : Int)) (i : Int) (((o + c + x * y) / 65536 : Nat) : Int) ((j + 1 : Nat) : Int)) (fun k => ?_)
      (IH (j + 1) _ _ ((Nat.add_right_comm j 1 d).trans hd) (by rw [List.length_set]; exact ho) (Dig.set hO (Int.natCast_nonneg _) (Int.ofNat_lt.2 (Nat.mod_lt _ h65))) n4 ?_ ?_))
    · simp only [latchkeyref01_Mul.l1]
      rw [if_pos f5]
    · simp only [latchkeyref01_Mul.j2]
      rw [if_pos trivial, f1, if_pos f3, if_pos f4, if_pos f5, if_pos (Int.natCast_nonneg i), if_pos (Int.ofNat_lt.2 hi), if_pos f6, rd_getD, rd_getD, rd_getD, hoo, hy, hxx, mulN, addN, n1, n2, addN, n3, f2, Int.toNat_natCast]
      rw [show Int.tmod ((o + c + x * y : Nat) : Int) 65536 = (((o + c + x * y) % 65536 : Nat) : Int) from tmod_nat _ 65536, show Int.tdiv ((o + c + x * y : Nat) : Int) 65536 = (((o + c + x * y) / 65536 : Nat) : Int) from tdiv_nat _ 65536, n5]
    · rw [getD_set_ne _ _ _ _ (fun e => Nat.lt_irrefl _ (Nat.lt_of_lt_of_eq g1 (Nat.add_left_cancel e).symm))]
      exact hz
    · have hv := HV.out
      have e := set_value (B := 65536) out (i + j) ((o + c + x * y) % 65536) o g2 hoo
      simp only [low]
      rw [hy, Int.toNat_natCast]
      have e3 : vd out + 65536 ^ (i + j) * c = V + (65536 ^ i * low 65536 b j) * x := by rw [hv]; grind
      have f := mul_step (B := 65536) (c := c) (x := x) (y := y) e (em.trans (by rw [Nat.add_comm, Nat.add_assoc])) e3
      show val 65536 _ + _ = _
      rw [show i + (j + 1) = i + j + 1 from rfl, Nat.pow_succ, f, Nat.pow_add]
      grind
theorem rMul_outer : ∀ (d i : Nat) (out : List Int), i + d = a.length → out.length = a.length + b.length + 1 → L16 out → vd out = low 65536 a i * vd b → Ev (fun k => latchkeyref01_Mul.l0 k a b out (i : Int)) (dd (vd a * vd b)) := by
  intro d
  induction d with
  | zero =>
    intro i out hd ho hO hv
    refine Ev.step (f := fun k => (latchkeyref01_trim.f k out).bind fun t => some t) (fun k => ?_) ?_
    · simp only [latchkeyref01_Mul.l0]
      rw [if_neg (by omega)]
    · refine Ev.bind (trim_ev hO (by omega)) (Ev.same (Ev.now _) ?_)
      rw [hv, low_all _ a (by omega)]
      rfl
  | succ d IH =>
    intro i out hd ho hO hv
    obtain ⟨x, hx, hx2⟩ := getD_nat (by omega) hA i
    refine Ev.step (f := fun k => latchkeyref01_Mul.l1 k a b out (i : Int) ((0 : Nat) : Int) ((0 : Nat) : Int)) (fun k => ?_) ?_
    · simp only [latchkeyref01_Mul.l0]
      rw [if_pos (by omega)]
      rfl
    · have hlt : vd out < 65536 ^ (i + b.length) := by
        rw [hv, Nat.pow_add]
        exact Nat.mul_lt_mul'' (low_lt (by omega) hA i) (val_lt (by omega) hB)
      refine rMul_inner a b hA hB ha hb i x (vd out) (by omega) hx hx2 _ (fun out2 ho2 hO2 hv2 => IH (i + 1) out2 (by omega) ho2 hO2 ?_) b.length 0 0 out (by omega) ho hO (by omega) (val_digit_zero out _ hO hlt) ?_
      · rw [hv2, hv]
        simp only [low]
        rw [hx, Int.toNat_natCast]
        grind
      · simp [low]
end
theorem rMul_ev' {a b : List Int} (hA : L16 a) (hB : L16 b) (ha : a.length < 1099511627776) (hb : b.length < 1099511627776) : Ev (fun k => latchkeyref01_Mul.f k a b) (dd (vd a * vd b)) := by
  unfold latchkeyref01_Mul.f
  rw [w64 (x := (a.length : Int) + (b.length : Int)) (by omega) (by omega), w64 (by omega) (by omega)]
  refine Ev.congr (fun k => (if_pos (by omega)).trans (if_pos (by omega))) ?_
  refine rMul_outer a b hA hB ha hb a.length 0 _ (by omega) ?_ (Dig.zeros _ _ (by omega)) ?_
  · rw [List.length_replicate]
    omega
  · simp only [low, Nat.zero_mul]
    exact val_zeros _ _
theorem rMul_ev (m n : Nat) (hm : (dd m).length < 1099511627776) (hn : (dd n).length < 1099511627776) : Ev (fun k => latchkeyref01_Mul.f k (dd m) (dd n)) (dd (m * n)) := by
  have h := rMul_ev' (dd_L m) (dd_L n) hm hn
  rw [vd_dd, vd_dd] at h
  exact h
end Go.Proofs.Ytanjbjenohdodaa.Q
