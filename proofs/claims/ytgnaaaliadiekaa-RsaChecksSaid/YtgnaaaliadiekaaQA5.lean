/- Products: the program's and the reference's. -/
import Derived.Test.YtgnaaaliadiekaaBx0
import Derived.Test.YtgnaaaliadiekaaBx93
import Derived.Test.YtgnaaaliadiekaaQA4
import Derived.Lib.Mul64
import Derived.Laws.BitsLemmas
namespace Go.Proofs.Ytgnaaaliadiekaa.Q
open Go.RowKit Go.Proofs.Ytgnaaaliadiekaa.B Go.Proofs.YtgnaaaliadiekaaW.PrintWords Go.Proofs.YtgnaaaliadiekaaW.PrintLast Go.Proofs.YtgnaaaliadiekaaW.PrintMore
set_option linter.unusedVariables false
set_option linter.unusedSectionVars false

theorem wu (n : Nat) (h : n < 18446744073709551616) : IntKind.u64.wrap (n : Int) = (n : Int) := wu64 (by omega) (by omega)
theorem u64_keeps (n : Int) (h0 : 0 ≤ n) (h1 : n < 2 ^ 64) : IntKind.u64.wrap n = n := wu64 h0 (by omega)
theorem and32 (n : Nat) (h : n < 18446744073709551616) : Go.bits .and .u64 (n : Int) 4294967295 = ((n % 4294967296 : Nat) : Int) := by
  have e := bits_mask .u64 64 (by decide) u64_keeps 32 (by decide) (n : Int) (by omega) (by omega)
  exact e
theorem mulN (a b : Nat) : (a : Int) * (b : Int) = ((a * b : Nat) : Int) := rfl
theorem addN (a b : Nat) : (a : Int) + (b : Int) = ((a + b : Nat) : Int) := rfl
theorem divN (a b : Nat) : (a : Int) / (b : Int) = ((a / b : Nat) : Int) := rfl
theorem Mul64_ev (x y : Nat) (hx : x < 18446744073709551616) (hy : y < 18446744073709551616) : bits_Mul64.f (x : Int) (y : Int) = some (((x * y / 18446744073709551616 : Nat) : Int), ((x * y % 18446744073709551616 : Nat) : Int)) := by
  obtain ⟨b1, b2, b3, b4⟩ := Lib.mul64_hi x y hx hy
  have ha := Lib.half_mul_le (a := x / 4294967296) (b := y / 4294967296) (by omega) (by omega)
  have hb := Lib.half_mul_le (a := x / 4294967296) (b := y % 4294967296) (by omega) (by omega)
  have hc := Lib.half_mul_le (a := x % 4294967296) (b := y / 4294967296) (by omega) (by omega)
  unfold bits_Mul64.f
  rw [and32 x hx, and32 y hy, show (x : Int) / 4294967296 = ((x / 4294967296 : Nat) : Int) from divN x 4294967296, show (y : Int) / 4294967296 = ((y / 4294967296 : Nat) : Int) from divN y 4294967296]
  rw [mulN, mulN, mulN, mulN, mulN]
  generalize x / 4294967296 * (y / 4294967296) = A at *
  generalize hB : x / 4294967296 * (y % 4294967296) = B at *
  generalize x % 4294967296 * (y / 4294967296) = C at *
  generalize x % 4294967296 * (y % 4294967296) = D at *
  rw [wu A (by omega), wu B (by omega), wu C (by omega), wu D (by omega), show (D : Int) / 4294967296 = ((D / 4294967296 : Nat) : Int) from divN D 4294967296, addN, wu _ b2, and32 _ b2, show ((B + D / 4294967296 : Nat) : Int) / 4294967296 = (((B + D / 4294967296) / 4294967296 : Nat) : Int) from divN _ 4294967296, addN, addN, wu _ b3,
    show (((B + D / 4294967296) % 4294967296 + C : Nat) : Int) / 4294967296 = ((((B + D / 4294967296) % 4294967296 + C) / 4294967296 : Nat) : Int) from divN _ 4294967296, wu (A + (B + D / 4294967296) / 4294967296) (by omega), addN, b4, wu _ (by rw [Nat.div_lt_iff_lt_mul (by omega)]; exact Nat.mul_lt_mul'' hx hy)]
  congr 1
/-- two carries in a row, as numbers -/
theorem two_adds {B p o c : Nat} (hB : 0 < B) : ((p % B + o + 0) % B + c + 0) % B = (p + o + c) % B ∧ p / B + (p % B + o + 0) / B + ((p % B + o + 0) % B + c + 0) / B = (p + o + c) / B := by
  rw [Nat.add_zero, Nat.add_zero]
  have h1 := Nat.div_add_mod p B
  have h2 := Nat.div_add_mod (p % B + o) B
  have h3 := Nat.div_add_mod ((p % B + o) % B + c) B
  have h4 := Nat.mod_lt ((p % B + o) % B + c) hB
  generalize p / B = q at *
  generalize p % B = r at *
  generalize (r + o) / B = s at *
  generalize (r + o) % B = t at *
  generalize (t + c) / B = u at *
  generalize (t + c) % B = z at *
  have e : p + o + c = z + B * (q + s + u) := by
    rw [Nat.mul_add, Nat.mul_add]
    omega
  rw [e, Nat.add_mul_mod_self_left, Nat.mod_eq_of_lt h4, Nat.add_mul_div_left _ _ hB, Nat.div_eq_of_lt h4]
  exact ⟨rfl, (Nat.zero_add _).symm⟩
theorem val_digit_zero {B : Nat} : ∀ (l : List Int) (n : Nat), Dig B l → val B l < B ^ n → l.getD n 0 = 0
  | [], n, _, _ => by simp
  | x :: l, 0, h, hv => by
    have h1 := h.head
    simp only [val, Nat.pow_zero] at hv
    have : x.toNat = 0 := by omega
    show x = 0
    omega
  | x :: l, n + 1, h, hv => by
    show l.getD n 0 = 0
    refine val_digit_zero (B := B) l n h.tail ?_
    simp only [val, Nat.pow_succ] at hv
    rcases Nat.lt_or_ge (val B l) (B ^ n) with h1 | h1
    · exact h1
    · have := Nat.mul_le_mul_left B h1
      rw [Nat.mul_comm B (B ^ n)] at this
      omega
theorem carry_bound {B x y o c : Nat} (hB : 0 < B) (hx : x < B) (hy : y < B) (ho : o < B) (hc : c < B) : (x * y + o + c) / B < B := by
  rw [Nat.div_lt_iff_lt_mul hB]
  have h1 : x * y ≤ (B - 1) * (B - 1) := Nat.mul_le_mul (by omega) (by omega)
  obtain ⟨b, rfl⟩ : ∃ b, B = b + 1 := ⟨B - 1, by omega⟩
  simp only [Nat.add_sub_cancel] at h1
  have h2 : (b + 1) * (b + 1) = b * b + b + b + 1 := by grind
  omega
theorem set_value {B : Nat} (l : List Int) (n z o : Nat) (h : n < l.length) (ho : l.getD n 0 = (o : Int)) : val B (l.set n (z : Int)) + B ^ n * o = val B l + B ^ n * z := by
  have e := val_set (B := B) l n (z : Int) h
  rw [ho, Int.toNat_natCast, Int.toNat_natCast] at e
  exact e
/-- one step of a product's inner loop, as numbers -/
theorem mul_step {B P V v out o z c c' x y l : Nat} (h1 : v + P * o = out + P * z) (h2 : B * c' + z = x * y + o + c) (h3 : out + P * c = V + l * x) : v + P * B * c' = V + (l + P * y) * x := by
  have h4 := congrArg (P * ·) h2
  simp only [Nat.mul_add] at h4
  have e1 : P * B * c' = P * (B * c') := Nat.mul_assoc _ _ _
  have e2 : (l + P * y) * x = l * x + P * (x * y) := by grind
  rw [e1, e2]
  omega
theorem getD_set_ne (l : List Int) (n m : Nat) (x : Int) (h : n ≠ m) : (l.set n x).getD m 0 = l.getD m 0 := by
  rw [List.getD_eq_getElem?_getD, List.getD_eq_getElem?_getD, List.getElem?_set_ne h]
theorem mul_idx (i j la lb lo d : Nat) (ha : la < 1099511627776) (hb : lb < 1099511627776) (hi : i < la) (hd : j + (d + 1) = lb) (ho : lo = la + lb) :
    wrap64 ((i : Int) + (j : Int)) = ((i + j : Nat) : Int) ∧ wrap64 ((j : Int) + 1) = ((j + 1 : Nat) : Int) ∧ (0 : Int) ≤ ((i + j : Nat) : Int) ∧ ((i + j : Nat) : Int) < (lo : Int) ∧ (j : Int) < (lb : Int) ∧ (0 : Int) ≤ (j : Int) := by
  refine ⟨w64 (by omega) (by omega), w64 (by omega) (by omega), ?_, ?_, ?_, ?_⟩ <;> omega
section
variable (a b : List Int) (hA : L64 a) (hB : L64 b) (ha : a.length < 1099511627776) (hb : b.length < 1099511627776)
include hA hB ha hb
end
end Go.Proofs.Ytgnaaaliadiekaa.Q
