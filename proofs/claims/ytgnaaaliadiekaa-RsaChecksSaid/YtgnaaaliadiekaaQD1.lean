/- A multiple taken away from a part of a number, and given back to it: what the limbs are then. -/
import Derived.Test.YtgnaaaliadiekaaBx0
import Derived.Test.YtgnaaaliadiekaaSIntr
import Derived.Test.YtgnaaaliadiekaaQA5
import Derived.Test.YtgnaaaliadiekaaQD0
namespace Go.Proofs.Ytgnaaaliadiekaa.Q
open Go.RowKit Go.Proofs.Ytgnaaaliadiekaa.B Go.Proofs.YtgnaaaliadiekaaW.PrintWords Go.Proofs.YtgnaaaliadiekaaW.PrintLast Go.Proofs.YtgnaaaliadiekaaW.PrintMore
set_option linter.unusedVariables false

theorem subs_nat (x y c : Nat) : sub64s (x : Int) (y : Int) (c : Int) = (((x + 18446744073709551616 - y - c) % 18446744073709551616 : Nat) : Int) := by simp [sub64s]
theorem subc_nat (x y c : Nat) : sub64c (x : Int) (y : Int) (c : Int) = ((if x < y + c then 1 else 0 : Nat) : Int) := by
  unfold sub64c
  simp only [Int.toNat_natCast]
  split <;> rfl
theorem sub_digit {x y c : Nat} (hx : x < 18446744073709551616) (hy : y < 18446744073709551616) (hc : c ≤ 1) :
    (x + 18446744073709551616 - y - c) % 18446744073709551616 + y + c = x + 18446744073709551616 * (if x < y + c then 1 else 0) ∧ (x + 18446744073709551616 - y - c) % 18446744073709551616 < 18446744073709551616 ∧ (if x < y + c then 1 else 0) ≤ 1 := by
  split <;> omega
theorem set_drop (l : List Int) (i j : Nat) (x : Int) (h : i < j) : (l.set i x).drop j = l.drop j := by
  rw [List.drop_set]
  simp [h]
theorem take_alg {B P V2 E x y vv c b l' ca s u b' val1 U0 : Nat} (h1 : l' + B * ca = x * y + c) (h2 : s + l' + b = u + B * b') (h3 : U0 + P * u + P * l' + P * b = U0 + P * s + P * l' + P * b + 0 → True) (hs : val1 + P * u = U0 + P * s) (hr : V2 + P * B * (x * vv + ca + b') = val1 + E) :
    V2 + P * (x * (y + B * vv) + c + b) = U0 + E := by
  have e1 : P * (x * (y + B * vv) + c + b) = P * (x * y + c) + P * b + P * B * (x * vv) := by grind
  have e2 : P * (x * y + c) = P * l' + P * B * ca := by rw [← h1]; grind
  have e3 : P * s + P * l' + P * b = P * u + P * B * b' := by
    have := congrArg (P * ·) h2
    simp only [Nat.mul_add] at this
    rw [this, Nat.mul_assoc]
  have e4 : P * B * (x * vv + ca + b') = P * B * (x * vv) + P * B * ca + P * B * b' := by simp only [Nat.mul_add]
  rw [e4] at hr
  rw [e1, e2]
  omega
end Go.Proofs.Ytgnaaaliadiekaa.Q
