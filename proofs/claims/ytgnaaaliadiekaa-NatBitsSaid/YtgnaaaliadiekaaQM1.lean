/- Numbers below a modulus: what is left, sums, products, differences; the inverse. -/
import Derived.Test.YtgnaaaliadiekaaBx0
import Derived.Test.YtgnaaaliadiekaaQD4
import Derived.Test.YtgnaaaliadiekaaQA7
namespace Go.Proofs.Ytgnaaaliadiekaa.Q
open Go.RowKit Go.Proofs.Ytgnaaaliadiekaa.B Go.Proofs.YtgnaaaliadiekaaW.PrintWords Go.Proofs.YtgnaaaliadiekaaW.PrintLast Go.Proofs.YtgnaaaliadiekaaW.PrintMore
set_option linter.unusedVariables false
set_option linter.unusedSimpArgs false

theorem dg_fits {n k : Nat} (h : n < 18446744073709551616 ^ k) : (dg n).length ≤ k := dg_len.2 h
theorem mul_len {a b : List Int} (hA : L64 a) (hB : L64 b) : (dg (vl a * vl b)).length ≤ a.length + b.length := dg_fits (by rw [Nat.pow_add]; exact Nat.mul_lt_mul'' (vl_lt hA) (vl_lt hB))
theorem add_len {a b : List Int} (hA : L64 a) (hB : L64 b) : (dg (vl a + vl b)).length ≤ a.length + b.length + 1 := by
  refine dg_fits ?_
  have h1 := vl_lt hA
  have h2 := vl_lt hB
  have h3 : 18446744073709551616 ^ a.length ≤ 18446744073709551616 ^ (a.length + b.length) := Nat.pow_le_pow_right (by decide) (Nat.le_add_right _ _)
  have h4 : 18446744073709551616 ^ b.length ≤ 18446744073709551616 ^ (a.length + b.length) := Nat.pow_le_pow_right (by decide) (Nat.le_add_left _ _)
  rw [Nat.pow_succ]
  omega
/-- The difference below a modulus. -/
def msub (x y M : Nat) : Nat := (x % M + (M - y % M)) % M
theorem msub_ge {x y M : Nat} (hM : 0 < M) (h : y % M ≤ x % M) : msub x y M = x % M - y % M := by
  have h1 := Nat.mod_lt x hM
  unfold msub
  rw [show x % M + (M - y % M) = (x % M - y % M) + M from by omega, Nat.add_mod_right, Nat.mod_eq_of_lt (by omega)]
theorem msub_lt {x y M : Nat} (hM : 0 < M) (h : x % M < y % M) : msub x y M = x % M + M - y % M := by
  have h1 := Nat.mod_lt y hM
  unfold msub
  rw [show x % M + (M - y % M) = x % M + M - y % M from by omega, Nat.mod_eq_of_lt (by omega)]
theorem mod_fits {m : List Int} (hM : L64 m) (h0 : 0 < vl m) (x : Nat) : (dg (x % vl m)).length ≤ m.length := dg_fits (Nat.lt_trans (Nat.mod_lt _ h0) (vl_lt hM))
/-- what the steps of the inverse keep -/
def InvSt (M A r s x y : Nat) (odd : Bool) : Prop :=
  r * y + s * x = M ∧ x ≤ y ∧ Nat.gcd r s = Nat.gcd M A ∧
  (if odd = true then (∃ c, r + M * c = x * A) ∧ ∃ d, s + y * A = M * d else (∃ c, r + x * A = M * c) ∧ ∃ d, s + M * d = y * A)
theorem InvSt.step {M A r s x y : Nat} {odd : Bool} (h : InvSt M A r s x y odd) (hs : 0 < s) (hrs : s ≤ r) : InvSt M A s (r % s) y (x + r / s * y) (!odd) := by
  obtain ⟨h1, h2, h3, h4⟩ := h
  have hd := Nat.div_add_mod r s
  have hq : 1 ≤ r / s := Nat.div_pos hrs hs
  generalize r / s = q at *
  refine ⟨?_, ?_, ?_, ?_⟩
  · generalize r % s = t at *
    subst hd
    grind
  · have := Nat.mul_le_mul_right y hq
    omega
  · rw [← h3, Nat.gcd_comm r s, Nat.gcd_rec s r, Nat.gcd_comm]
  · generalize r % s = t at *
    subst hd
    cases odd with
    | false =>
      simp only [Bool.false_eq_true, if_false, Bool.not_false, if_true] at h4 ⊢
      obtain ⟨⟨c, hc⟩, d, hd⟩ := h4
      refine ⟨⟨d, hd⟩, c + q * d, ?_⟩
      have e1 : q * (s + M * d) = q * (y * A) := congrArg (q * ·) hd
      grind
    | true =>
      simp only [Bool.false_eq_true, if_false, Bool.not_true, if_true] at h4 ⊢
      obtain ⟨⟨c, hc⟩, d, hd⟩ := h4
      refine ⟨⟨d, hd⟩, c + q * d, ?_⟩
      have e1 : q * (s + y * A) = q * (M * d) := congrArg (q * ·) hd
      grind
theorem InvSt.done_odd {M A x y : Nat} (h : InvSt M A 1 0 x y true) : x * A % M = 1 % M := by
  obtain ⟨_, _, _, h4⟩ := h
  simp only [if_true] at h4
  obtain ⟨⟨c, hc⟩, _⟩ := h4
  rw [← hc, Nat.add_mul_mod_self_left]
theorem InvSt.done_even {M A x y : Nat} (h : InvSt M A 1 0 x y false) : x ≤ M ∧ (M - x) * A % M = 1 % M := by
  obtain ⟨h1, h2, _, h4⟩ := h
  simp only [Bool.false_eq_true, if_false] at h4
  obtain ⟨⟨c, hc⟩, _⟩ := h4
  have hy : y = M := by omega
  subst hy
  refine ⟨h2, ?_⟩
  obtain ⟨z, rfl⟩ := Nat.exists_eq_add_of_le h2
  rw [Nat.add_sub_cancel_left]
  -- z A + x A = (x + z) A;  1 + x A = (x + z) c
  have e : z * A + (x + z) * c = 1 + (x + z) * A := by rw [← hc]; grind
  have e2 := congrArg (· % (x + z)) e
  simp only [Nat.add_mul_mod_self_left] at e2
  exact e2
end Go.Proofs.Ytgnaaaliadiekaa.Q
