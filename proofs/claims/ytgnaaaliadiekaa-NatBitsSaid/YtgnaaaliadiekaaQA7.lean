/- Differences: the program's and the reference's; a small number's digits. -/
import Derived.Test.YtgnaaaliadiekaaBx0
import Derived.Test.YtgnaaaliadiekaaQA6
import Derived.Test.YtgnaaaliadiekaaQD1
namespace Go.Proofs.Ytgnaaaliadiekaa.Q
open Go.RowKit Go.Proofs.Ytgnaaaliadiekaa.B Go.Proofs.YtgnaaaliadiekaaW.PrintWords Go.Proofs.YtgnaaaliadiekaaW.PrintLast Go.Proofs.YtgnaaaliadiekaaW.PrintMore
set_option linter.unusedVariables false

theorem sub_step {P B X Y u s y c b' la lb : Nat} (h1 : X + P * u = Y + P * s) (h2 : s + y + c = u + B * b') (h3 : Y + lb = la + P * c) : X + (lb + P * y) = la + P * B * b' := by
  have h4 := congrArg (P * ·) h2
  simp only [Nat.mul_add] at h4
  rw [Nat.mul_assoc]
  omega
theorem rsub_digit {u y c : Nat} (hu : u < 65536) (hy : y < 65536) (hc : c ≤ 1) (z : Nat) (hz : z = (u + 65536 - y - c) % 65536) : z + y + c = u + 65536 * (if u < y + c then 1 else 0) ∧ z < 65536 ∧ (if u < y + c then 1 else 0) ≤ 1 ∧
    ((u : Int) - c - y < 0 ↔ u < y + c) ∧ (u < y + c → wrap64 (wrap64 (wrap64 ((u : Int) - c) - y) + 65536) = (z : Int)) ∧ (¬ u < y + c → wrap64 (wrap64 ((u : Int) - c) - y) = (z : Int)) ∧ wrap64 (wrap64 ((u : Int) - c) - y) = (u : Int) - c - y := by
  subst hz
  have h1 : wrap64 ((u : Int) - c) = (u : Int) - c := w64 (by omega) (by omega)
  rw [h1]
  have h2 : wrap64 ((u : Int) - c - y) = (u : Int) - c - y := w64 (by omega) (by omega)
  rw [h2]
  refine ⟨by split <;> omega, by omega, by split <;> omega, by omega, fun h => ?_, fun h => by omega, rfl⟩
  rw [w64 (by omega) (by omega)]
  omega
theorem dd_len63 {n : Nat} (h : n < 9223372036854775808) : (dd n).length ≤ 4 := dd_len.2 (by omega)
end Go.Proofs.Ytgnaaaliadiekaa.Q
