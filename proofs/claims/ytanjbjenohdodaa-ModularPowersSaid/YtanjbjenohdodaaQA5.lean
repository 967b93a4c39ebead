/- Products: the program's and the reference's. -/
import Derived.Test.YtanjbjenohdodaaBx0
import Derived.Test.YtanjbjenohdodaaBx1
import Derived.Test.YtanjbjenohdodaaBx3
import Derived.Test.YtanjbjenohdodaaBx6
import Derived.Test.YtanjbjenohdodaaQA4
import Derived.Lib.Mul64
import Derived.Laws.BitsLemmas
namespace Go.Proofs.Ytanjbjenohdodaa.Q
open Go.RowKit Go.Proofs.Ytanjbjenohdodaa.B Go.Proofs.YtanjbjenohdodaaW.PrintWords Go.Proofs.YtanjbjenohdodaaW.PrintLast Go.Proofs.YtanjbjenohdodaaW.PrintMore
set_option linter.unusedVariables false
set_option linter.unusedSectionVars false

theorem wu (n : Nat) (h : n < 18446744073709551616) : IntKind.u64.wrap (n : Int) = (n : Int) := wu64 (by omega) (by omega)
theorem u64_keeps (n : Int) (h0 : 0 ≤ n) (h1 : n < 2 ^ 64) : IntKind.u64.wrap n = n := wu64 h0 (by omega)
theorem and32 (n : Nat) (h : n < 18446744073709551616) : Go.bits .and .u64 (n : Int) 4294967295 = ((n % 4294967296 : Nat) : Int) := by
  have e := bits_mask .u64 64 (by decide) u64_keeps 32 (by decide) (n : Int) (by omega) (by omega)
  exact e
theorem mulN (a b : Nat) : (a : Int) * (b : Int) = ((a * b : Nat) : Int) := rfl
theorem addN (a b : Nat) : (a : Int) + (b : Int) = ((a + b : Nat) : Int) := rfl
theorem divN (a b : Nat) : (a : Int) / (b : Int) = ((a / b : Nat) : Int) := rfl
theorem Mul64_ev (x y : Nat) (hx : x < 18446744073709551616) (hy : y < 18446744073709551616) : bits_Mul64.f (x : Int) (y : Int) = some (((x * y / 18446744073709551616 : Nat) : Int), ((x * y % 18446744073709551616 : Nat) : Int)) := by
  obtain ⟨b1, b2, b3, b4⟩ := Lib.mul64_hi x y hx hy
  have ha := Lib.half_mul_le (a := x / 4294967296) (b := y / 4294967296) (by omega) (by omega)
  have hb := Lib.half_mul_le (a := x / 4294967296) (b := y % 4294967296) (by omega) (by omega)
  have hc := Lib.half_mul_le (a := x % 4294967296) (b := y / 4294967296) (by omega) (by omega)
  unfold bits_Mul64.f
  rw [and32 x hx, and32 y hy, show (x : Int) / 4294967296 = ((x / 4294967296 : Nat) : Int) from divN x 4294967296, show (y : Int) / 4294967296 = ((y / 4294967296 : Nat) : Int) from divN y 4294967296]
  rw [mulN, mulN, mulN, mulN, mulN]
  generalize x / 4294967296 * (y / 4294967296) = A at *
  generalize hB : x / 4294967296 * (y % 4294967296) = B at *
  generalize x % 4294967296 * (y / 4294967296) = C at *
  generalize x % 4294967296 * (y % 4294967296) = D at *
  rw [wu A (by omega), wu B (by omega), wu C (by omega), wu D (by omega), show (D : Int) / 4294967296 = ((D / 4294967296 : Nat) : Int) from divN D 4294967296, addN, wu _ b2, and32 _ b2, show ((B + D / 4294967296 : Nat) : Int) / 4294967296 = (((B + D / 4294967296) / 4294967296 : Nat) : Int) from divN _ 4294967296, addN, addN, wu _ b3,
    show (((B + D / 4294967296) % 4294967296 + C : Nat) : Int) / 4294967296 = ((((B + D / 4294967296) % 4294967296 + C) / 4294967296 : Nat) : Int) from divN _ 4294967296, wu (A + (B + D / 4294967296) / 4294967296) (by omega), addN, b4, wu _ (by rw [Nat.div_lt_iff_lt_mul (by omega)]; exact Nat.mul_lt_mul'' hx hy)]
  congr 1
/-- two carries in a row, as numbers -/
theorem two_adds {B p o c : Nat} (hB : 0 < B) : ((p % B + o + 0) % B + c + 0) % B = (p + o + c) % B ∧ p / B + (p % B + o + 0) / B + ((p % B + o + 0) % B + c + 0) / B = (p + o + c) / B := by
  rw [Nat.add_zero, Nat.add_zero]
  have h1 := Nat.div_add_mod p B
  have h2 := Nat.div_add_mod (p % B + o) B
  have h3 := Nat.div_add_mod ((p % B + o) % B + c) B
  have h4 := Nat.mod_lt ((p % B + o) % B + c) hB
  generalize p / B = q at *
  generalize p % B = r at *
  generalize (r + o) / B = s at *
  generalize (r + o) % B = t at *
  generalize (t + c) / B = u at *
  generalize (t + c) % B = z at *
  have e : p + o + c = z + B * (q + s + u) := by
    rw [Nat.mul_add, Nat.mul_add]
    omega
  rw [e, Nat.add_mul_mod_self_left, Nat.mod_eq_of_lt h4, Nat.add_mul_div_left _ _ hB, Nat.div_eq_of_lt h4]
  exact ⟨rfl, (Nat.zero_add _).symm⟩
theorem val_digit_zero {B : Nat} : ∀ (l : List Int) (n : Nat), Dig B l → val B l < B ^ n → l.getD n 0 = 0
  | [], n, _, _ => by simp
  | x :: l, 0, h, hv => by
    have h1 := h.head
    simp only [val, Nat.pow_zero] at hv
    have : x.toNat = 0 := by omega
    show x = 0
    omega
  | x :: l, n + 1, h, hv => by
    show l.getD n 0 = 0
    refine val_digit_zero (B := B) l n h.tail ?_
    simp only [val, Nat.pow_succ] at hv
    rcases Nat.lt_or_ge (val B l) (B ^ n) with h1 | h1
    · exact h1
    · have := Nat.mul_le_mul_left B h1
      rw [Nat.mul_comm B (B ^ n)] at this
      omega
theorem carry_bound {B x y o c : Nat} (hB : 0 < B) (hx : x < B) (hy : y < B) (ho : o < B) (hc : c < B) : (x * y + o + c) / B < B := by
  rw [Nat.div_lt_iff_lt_mul hB]
  have h1 : x * y ≤ (B - 1) * (B - 1) := Nat.mul_le_mul (by omega) (by omega)
  obtain ⟨b, rfl⟩ : ∃ b, B = b + 1 := ⟨B - 1, by omega⟩
  simp only [Nat.add_sub_cancel] at h1
  have h2 : (b + 1) * (b + 1) = b * b + b + b + 1 := by grind
  omega
theorem set_value {B : Nat} (l : List Int) (n z o : Nat) (h : n < l.length) (ho : l.getD n 0 = (o : Int)) : val B (l.set n (z : Int)) + B ^ n * o = val B l + B ^ n * z := by
  have e := val_set (B := B) l n (z : Int) h
  rw [ho, Int.toNat_natCast, Int.toNat_natCast] at e
  exact e
/-- one step of a product's inner loop, as numbers -/
theorem mul_step {B P V v out o z c c' x y l : Nat} (h1 : v + P * o = out + P * z) (h2 : B * c' + z = x * y + o + c) (h3 : out + P * c = V + l * x) : v + P * B * c' = V + (l + P * y) * x := by
  have h4 := congrArg (P * ·) h2
  simp only [Nat.mul_add] at h4
  have e1 : P * B * c' = P * (B * c') := Nat.mul_assoc _ _ _
  have e2 : (l + P * y) * x = l * x + P * (x * y) := by grind
  rw [e1, e2]
  omega
theorem getD_set_ne (l : List Int) (n m : Nat) (x : Int) (h : n ≠ m) : (l.set n x).getD m 0 = l.getD m 0 := by
  rw [List.getD_eq_getElem?_getD, List.getD_eq_getElem?_getD, List.getElem?_set_ne h]
theorem mul_idx (i j la lb lo d : Nat) (ha : la < 1099511627776) (hb : lb < 1099511627776) (hi : i < la) (hd : j + (d + 1) = lb) (ho : lo = la + lb) :
    wrap64 ((i : Int) + (j : Int)) = ((i + j : Nat) : Int) ∧ wrap64 ((j : Int) + 1) = ((j + 1 : Nat) : Int) ∧ (0 : Int) ≤ ((i + j : Nat) : Int) ∧ ((i + j : Nat) : Int) < (lo : Int) ∧ (j : Int) < (lb : Int) ∧ (0 : Int) ≤ (j : Int) := by
  refine ⟨w64 (by omega) (by omega), w64 (by omega) (by omega), ?_, ?_, ?_, ?_⟩ <;> omega
section
variable (a b : List Int) (hA : L64 a) (hB : L64 b) (ha : a.length < 1099511627776) (hb : b.length < 1099511627776)
include hA hB ha hb
theorem Mul_inner (i x : Nat) (V : Nat) (hi : i < a.length) (hx : x < 18446744073709551616) (r : List Int)
    (next : ∀ out : List Int, out.length = a.length + b.length → L64 out → vl out = V + 18446744073709551616 ^ i * (x * vl b) → Ev (fun k => nat_Mul.l0 k b out a (a.length : Int) ((i + 1 : Nat) : Int)) r) :
    ∀ (d j c : Nat) (out : List Int), j + d = b.length → out.length = a.length + b.length → L64 out → c < 18446744073709551616 → out.getD (i + b.length) 0 = 0 →
    vl out + 18446744073709551616 ^ (i + j) * c = V + 18446744073709551616 ^ i * (x * low 18446744073709551616 b j) →
    Ev (fun k => nat_Mul.l1 k b out (i : Int) (x : Int) (c : Int) a (a.length : Int) (i : Int) b (b.length : Int) (j : Int)) r := by
  intro d
  induction d with
  | zero =>
    intro j c out hd ho hO hc hz hv
    have HV := Aside0.mk hv
    clear hv
    have hj : j = b.length := by omega
    subst hj
    refine Ev.step (f := fun k => nat_Mul.l0 k b (out.set (i + b.length) (c : Int)) a (a.length : Int) ((i + 1 : Nat) : Int)) (fun k => ?_) (next _ (by rw [List.length_set]; exact ho) (Dig.set hO (by omega) (by omega)) ?_)
    · simp only [nat_Mul.l1]
      rw [if_neg (by omega), w64 (x := (i : Int) + (b.length : Int)) (by omega) (by omega), if_pos (by omega), if_pos (by omega), w64 (by omega) (by omega), show ((i : Int) + (b.length : Int)).toNat = i + b.length from by omega]
      rfl
    · have e := set_value (B := 18446744073709551616) out (i + b.length) c 0 (by omega) hz
      show val 18446744073709551616 _ = _
      rw [Nat.mul_zero, Nat.add_zero] at e
      have hv := HV.out
      rw [low_all _ b (Nat.le_refl _)] at hv
      rw [e]
      exact hv
  | succ d IH =>
    intro j c out hd ho hO hc hz hv
    have HV := Aside0.mk hv
    clear hv
    obtain ⟨y, hy, hy2⟩ := getD_nat (Nat.succ_pos _) hB j
    obtain ⟨o, hoo, ho2⟩ := getD_nat (Nat.succ_pos _) hO (i + j)
    obtain ⟨f1, f2, f3, f4, f5, f6⟩ := mul_idx i j a.length b.length out.length d ha hb hi hd ho
    have g1 : j < b.length := Nat.lt_of_lt_of_le (Nat.lt_succ_of_le (Nat.le_add_right j d)) (Nat.le_of_eq hd)
    have g2 : i + j < out.length := Int.ofNat_lt.1 f4
    have hB0 : 0 < 18446744073709551616 := Nat.succ_pos _
    have hcb := carry_bound (B := 18446744073709551616) hB0 hx hy2 ho2 hc
    have em := Nat.div_add_mod (x * y + o + c) 18446744073709551616
    have hp : x * y / 18446744073709551616 < 18446744073709551616 := by rw [Nat.div_lt_iff_lt_mul hB0]; exact Nat.mul_lt_mul'' hx hy2
    generalize hS : (x * y + o + c) % 18446744073709551616 = z at em
    generalize hT : (x * y + o + c) / 18446744073709551616 = c' at em hcb
    have hzb : z < 18446744073709551616 := by rw [← hS]; exact Nat.mod_lt _ hB0
    refine Ev.step (f := fun k => nat_Mul.l1 k b (out.set (i + j) (z : Int)) (i : Int) (x : Int) (c' : Int) a (a.length : Int) (i : Int) b (b.length : Int) ((j + 1 : Nat) : Int)) (fun k => ?_)
      (IH (j + 1) c' _ ((Nat.add_right_comm j 1 d).trans hd) (by rw [List.length_set]; exact ho) (Dig.set hO (Int.natCast_nonneg z) (Int.ofNat_lt.2 hzb)) hcb ?_ ?_)
    · simp only [nat_Mul.l1]
      have hM := Mul64_ev x y hx hy2
      obtain ⟨m1, m2⟩ := two_adds (B := 18446744073709551616) (p := x * y) (o := o) (c := c) hB0
      rw [hS] at m1
      rw [hT] at m2
      generalize x * y / 18446744073709551616 = h at hM m2
      generalize x * y % 18446744073709551616 = l at hM m1 m2
      clear em hS hT hp
      rw [if_pos f5, if_pos f6, if_pos f5, rd_getD, hy, hM]
      rw [Option.bind_some]
      dsimp only
      rw [f1, if_pos f3, if_pos f4, rd_getD, hoo, Int.toNat_natCast]
      have q1 := adds_nat l o 0
      have q2 := addc_nat l o 0
      rw [show ((0 : Nat) : Int) = 0 from rfl] at q1 q2
      rw [q1, q2]
      have q3 := adds_nat ((l + o + 0) % 18446744073709551616) c 0
      have q4 := addc_nat ((l + o + 0) % 18446744073709551616) c 0
      rw [show ((0 : Nat) : Int) = 0 from rfl] at q3 q4
      have hle : h + (l + o + 0) / 18446744073709551616 < 18446744073709551616 := Nat.lt_of_le_of_lt (Nat.le_add_right _ _) (by rw [m2]; exact hcb)
      rw [q3, q4, addN, wu _ hle, addN, f2, m1, m2, wu _ hcb]
    · rw [getD_set_ne _ _ _ _ (fun e => Nat.lt_irrefl _ (Nat.lt_of_lt_of_eq g1 (Nat.add_left_cancel e).symm))]
      exact hz
    · have e := set_value (B := 18446744073709551616) out (i + j) z o g2 hoo
      simp only [low]
      rw [hy, Int.toNat_natCast]
      have hv := HV.out
      have e3 : vl out + 18446744073709551616 ^ (i + j) * c = V + (18446744073709551616 ^ i * low 18446744073709551616 b j) * x := by rw [hv]; grind
      have f := mul_step (B := 18446744073709551616) e em e3
      show val 18446744073709551616 _ + _ = _
      rw [show i + (j + 1) = i + j + 1 from rfl, Nat.pow_succ, f, Nat.pow_add]
      grind
theorem Mul_outer : ∀ (d i : Nat) (out : List Int), i + d = a.length → out.length = a.length + b.length → L64 out → vl out = low 18446744073709551616 a i * vl b → Ev (fun k => nat_Mul.l0 k b out a (a.length : Int) (i : Int)) (dg (vl a * vl b))
  | 0, i, out, hd, ho, hO, hv => by
    refine Ev.step (f := fun k => (nat_Norm.f k out).bind fun t => some t) (fun k => ?_) ?_
    · simp only [nat_Mul.l0]
      rw [if_neg (by omega)]
    · refine Ev.bind (Norm_ev hO (by omega)) (Ev.same (Ev.now _) ?_)
      rw [hv, low_all _ a (by omega)]
      rfl
  | d + 1, i, out, hd, ho, hO, hv => by
    obtain ⟨x, hx, hx2⟩ := getD_nat (by omega) hA i
    refine Ev.step (f := fun k => nat_Mul.l1 k b out (i : Int) (x : Int) ((0 : Nat) : Int) a (a.length : Int) (i : Int) b (b.length : Int) ((0 : Nat) : Int)) (fun k => ?_) ?_
    · simp only [nat_Mul.l0]
      rw [if_pos (by omega), if_pos (by omega), if_pos (by omega), rd_getD, hx]
      rfl
    · have hlt : vl out < 18446744073709551616 ^ (i + b.length) := by
        rw [hv, Nat.pow_add]
        exact Nat.mul_lt_mul'' (low_lt (by omega) hA i) (vl_lt hB)
      refine Mul_inner a b hA hB ha hb i x (vl out) (by omega) hx2 _ (fun out2 ho2 hO2 hv2 => Mul_outer d (i + 1) out2 (by omega) ho2 hO2 ?_) b.length 0 0 out (by omega) ho hO (by omega) (val_digit_zero out _ hO hlt) ?_
      · rw [hv2, hv]
        simp only [low]
        rw [hx, Int.toNat_natCast]
        grind
      · simp [low]
end
theorem Mul_ev {a b : List Int} (hA : L64 a) (hB : L64 b) (ha : a.length < 1099511627776) (hb : b.length < 1099511627776) : Ev (fun k => nat_Mul.f k a b) (dg (vl a * vl b)) := by
  unfold nat_Mul.f
  rw [w64 (by omega) (by omega)]
  refine Ev.congr (fun k => (if_pos (by omega)).trans (if_pos (by omega))) ?_
  refine Mul_outer a b hA hB ha hb a.length 0 _ (by omega) ?_ (Dig.zeros _ _ (by omega)) ?_
  · rw [List.length_replicate]
    omega
  · simp only [low, Nat.zero_mul]
    exact val_zeros _ _
end Go.Proofs.Ytanjbjenohdodaa.Q
