/- Plain arithmetic of long division: how a digit is guessed, taken away, and given back. No program in sight. -/
import Derived.Test.YtgnaaaliadiekaaQA0
namespace Go.Proofs.Ytgnaaaliadiekaa.Q
set_option linter.unusedVariables false

/-- What is too much for the first digits is more than the quotient. -/
theorem kn_lt {P U3 V2 ul vl x : Nat} (hu : ul < P) (h : U3 < x * V2) : (U3 * P + ul) / (V2 * P + vl) < x := by
  by_cases h0 : V2 * P + vl = 0
  · rw [h0, Nat.div_zero]
    rcases Nat.eq_zero_or_pos x with hx | hx
    · subst hx
      rw [Nat.zero_mul] at h
      omega
    · exact hx
  · rw [Nat.div_lt_iff_lt_mul (by omega)]
    have h1 : (U3 + 1) * P ≤ x * V2 * P := Nat.mul_le_mul_right _ h
    have h2 : x * (V2 * P + vl) = x * V2 * P + x * vl := by rw [Nat.mul_add, Nat.mul_assoc]
    rw [Nat.add_mul, Nat.one_mul] at h1
    omega
/-- What is not too much for them is at most one more. -/
theorem kn_le {B P U3 V2 ul vl x : Nat} (hv : vl < P) (hx : x < B) (hB : B ≤ V2) (h : x * V2 ≤ U3) : x ≤ (U3 * P + ul) / (V2 * P + vl) + 1 := by
  have hP : 0 < P := by omega
  have hV : 0 < V2 * P + vl := Nat.lt_of_lt_of_le (Nat.mul_pos (by omega) hP) (Nat.le_add_right _ _)
  rcases Nat.eq_zero_or_pos x with h0 | h0
  · rw [h0]
    exact Nat.zero_le _
  · obtain ⟨y, rfl⟩ : ∃ y, x = y + 1 := ⟨x - 1, by omega⟩
    refine Nat.succ_le_succ ?_
    rw [Nat.le_div_iff_mul_le hV]
    have h1 : (y + 1) * V2 * P ≤ U3 * P := Nat.mul_le_mul_right _ h
    have h2 : y * vl ≤ y * P := Nat.mul_le_mul_left _ (by omega)
    have h3 : y * P ≤ V2 * P := Nat.mul_le_mul_right _ (by omega)
    have h4 : y * (V2 * P + vl) = y * (V2 * P) + y * vl := Nat.mul_add _ _ _
    have h5 : (y + 1) * V2 * P = y * (V2 * P) + V2 * P := by rw [Nat.mul_assoc, Nat.add_mul, Nat.one_mul]
    omega
/-- A remainder's digit: what is taken away is the quotient's digit. -/
theorem div_digit {U V q r : Nat} (h : U = q * V + r) (hr : r < V) : U / V = q ∧ U % V = r := by
  subst h
  have hV : 0 < V := by omega
  constructor
  · rw [Nat.add_comm, Nat.add_mul_div_right _ _ hV, Nat.div_eq_of_lt hr, Nat.zero_add]
  · rw [Nat.add_comm, Nat.add_mul_mod_self_right, Nat.mod_eq_of_lt hr]
/-- Behind a take: no borrow: the guess was the quotient. -/
theorem took_right {L W V x q R E : Nat} (hq1 : q ≤ x) (hq : q = W / V) (hV : 0 < V) (h : R + E * (x * V) = L + E * W) (hL : L < E) : x = q ∧ R + E * (q * V) = L + E * W := by
  have h1 : x ≤ q := by
    rw [hq, Nat.le_div_iff_mul_le hV]
    rcases Nat.lt_or_ge W (x * V) with hc | hc
    · have := Nat.mul_le_mul_left E hc
      rw [Nat.mul_succ] at this
      omega
    · exact hc
  have : x = q := Nat.le_antisymm h1 hq1
  subst this
  exact ⟨rfl, h⟩
/-- Behind a take with a borrow, and what was given back. -/
theorem took_more {L W V x q R R2 E T k : Nat} (hx : x ≤ q + 1) (hq : q = W / V) (hV : 0 < V) (h : R + E * (x * V) = L + E * W + T) (hR : R < T) (h2 : R2 + T * k = R + E * V) (hR2 : R2 < T) (hk : k ≤ 1) : x = q + 1 ∧ R2 + E * (q * V) = L + E * W := by
  have hqV : q * V ≤ W := by rw [hq]; exact Nat.div_mul_le_self W V
  have h1 : x ≠ q := by
    rintro rfl
    have := Nat.mul_le_mul_left E hqV
    omega
  have h3 : q ≤ x → x = q + 1 := by omega
  have h4 : q ≤ x := by
    rcases Nat.lt_or_ge x q with hc | hc
    · have h5 : x * V ≤ q * V := Nat.mul_le_mul_right _ (by omega)
      have := Nat.mul_le_mul_left E (Nat.le_trans h5 hqV)
      omega
    · exact hc
  have hx1 := h3 h4
  subst hx1
  refine ⟨rfl, ?_⟩
  have h6 : E * ((q + 1) * V) = E * (q * V) + E * V := by rw [Nat.add_mul, Nat.one_mul, Nat.mul_add]
  have h7 := Nat.mul_le_mul_left E hqV
  have hk1 : k = 1 := by
    rcases Nat.eq_zero_or_pos k with h0 | h0
    · subst h0
      rw [Nat.mul_zero] at h2
      omega
    · omega
  subst hk1
  rw [Nat.mul_one] at h2
  omega
/-- A list's first digits and the two or three greatest ones. -/
theorem low_top2 (B : Nat) (l : List Int) (n : Nat) (h : l.length = n + 2) : val B l = ((l.getD (n + 1) 0).toNat * B + (l.getD n 0).toNat) * B ^ n + val B (l.take n) := by
  have e1 := val_take_succ B l (n + 1) (by omega)
  have e2 := val_take_succ B l n (by omega)
  rw [show n + 1 + 1 = l.length from h.symm, List.take_length] at e1
  rw [e1, e2, Nat.pow_succ]
  grind
theorem low_top3 (B : Nat) (l : List Int) (n : Nat) (h : l.length = n + 3) : val B l = (((l.getD (n + 2) 0).toNat * B + (l.getD (n + 1) 0).toNat) * B + (l.getD n 0).toNat) * B ^ n + val B (l.take n) := by
  have e0 := val_take_succ B l (n + 2) (by omega)
  have e1 := val_take_succ B l (n + 1) (by omega)
  have e2 := val_take_succ B l n (by omega)
  rw [show n + 2 + 1 = l.length from h.symm, List.take_length] at e0
  rw [e0, e1, e2, Nat.pow_succ, show B ^ (n + 2) = B ^ n * B * B from by rw [Nat.pow_succ, Nat.pow_succ]]
  grind
end Go.Proofs.Ytgnaaaliadiekaa.Q
