/- The document's numbers multiplied and divided by powers of 2. -/
import Derived.Test.YtgnaaaliadiekaaBx0
import Derived.Test.YtgnaaaliadiekaaBx3
import Derived.Test.YtgnaaaliadiekaaQA11
namespace Go.Proofs.Ytgnaaaliadiekaa.Q
open Go.RowKit Go.Proofs.Ytgnaaaliadiekaa.B Go.Proofs.YtgnaaaliadiekaaW.PrintWords Go.Proofs.YtgnaaaliadiekaaW.PrintLast Go.Proofs.YtgnaaaliadiekaaW.PrintMore
set_option linter.unusedVariables false
set_option linter.unusedSimpArgs false

theorem shl_one : ∀ r : Nat, r < 16 → shl .i64 1 (r : Int) = ((2 ^ r : Nat) : Int) := by decide
theorem val_drop_div {B : Nat} (hB : 0 < B) {a : List Int} (hA : Dig B a) (q : Nat) (hq : q ≤ a.length) : val B (a.drop q) = val B a / B ^ q := by
  have e := val_take_drop B a q hq
  have h : val B (a.take q) < B ^ q := by
    have := val_lt hB (Dig.take hA q)
    rw [List.length_take, Nat.min_eq_left hq] at this
    exact this
  rw [e, Nat.add_mul_div_left _ _ (Nat.pow_pos hB), Nat.div_eq_of_lt h, Nat.zero_add]
theorem by_consts (n : Nat) (h : n < 4611686018427387904) : wrap64 (Int.tdiv (n : Int) 16) = ((n / 16 : Nat) : Int) ∧ wrap64 (((n / 16 : Nat) : Int) + 1) = ((n / 16 + 1 : Nat) : Int) ∧ Int.tmod (n : Int) 16 = ((n % 16 : Nat) : Int) ∧ n % 16 < 16 := by
  refine ⟨?_, w64 (by omega) (by omega), tmod_nat _ 16, Nat.mod_lt _ (by decide)⟩
  rw [show Int.tdiv (n : Int) 16 = ((n / 16 : Nat) : Int) from tdiv_nat _ 16]
  exact w64 (by omega) (by omega)
theorem pow_lt16 (r : Nat) (h : r < 16) : 2 ^ r < 65536 ∧ 0 < 2 ^ r := by
  have : 2 ^ r ≤ 2 ^ 15 := Nat.pow_le_pow_right (by decide) (Nat.le_of_lt_succ h)
  exact ⟨Nat.lt_of_le_of_lt this (by decide), Nat.two_pow_pos r⟩
theorem pow16_split (n : Nat) : 2 ^ n = 65536 ^ (n / 16) * 2 ^ (n % 16) := by
  rw [pow16, ← Nat.pow_add, Nat.div_add_mod]
theorem Shift_neg_ev {a : List Int} (hA : L64 a) (ha : a.length < 1099511627776) (m : Nat) (hm : m < 1099511627776) : Ev (fun k => nat_Shift.f k a (-(m : Int))) (dg (vl a * 2 ^ m)) := by
  rcases Nat.eq_zero_or_pos m with h0 | h0
  · subst h0
    have h := Shift_down_ev hA ha 0 (by decide)
    rw [Nat.pow_zero, Nat.div_one] at h
    rw [Nat.pow_zero, Nat.mul_one]
    exact h
  · exact Shift_up_ev hA ha m hm h0
end Go.Proofs.Ytgnaaaliadiekaa.Q
