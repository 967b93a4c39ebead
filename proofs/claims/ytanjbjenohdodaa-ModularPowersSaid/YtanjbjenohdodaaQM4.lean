/- What 'told' asks, for numbers as the document has them. -/
import Derived.Test.YtanjbjenohdodaaBx0
import Derived.Test.YtanjbjenohdodaaBx1
import Derived.Test.YtanjbjenohdodaaQM3
import Derived.Test.YtanjbjenohdodaaQH2
namespace Go.Proofs.Ytanjbjenohdodaa.Q
open Go.RowKit Go.Proofs.Ytanjbjenohdodaa.B Go.Proofs.YtanjbjenohdodaaW.PrintWords Go.Proofs.YtanjbjenohdodaaW.PrintLast Go.Proofs.YtanjbjenohdodaaW.PrintMore
set_option linter.unusedVariables false

theorem up_to {x k l : Nat} (h : x < 18446744073709551616 ^ k) (hkl : k ≤ l) : x < 18446744073709551616 ^ l := Nat.lt_of_lt_of_le h (Nat.pow_le_pow_right (by decide) hkl)
theorem dd_add (x y : Nat) : (dd (x + y)).length ≤ (dd x).length + (dd y).length + 1 := by
  refine dd_len.2 ?_
  have h1 := dd_len.1 (Nat.le_refl (dd x).length)
  have h2 := dd_len.1 (Nat.le_refl (dd y).length)
  have h3 : 65536 ^ (dd x).length ≤ 65536 ^ ((dd x).length + (dd y).length) := Nat.pow_le_pow_right (by decide) (Nat.le_add_right _ _)
  have h4 : 65536 ^ (dd y).length ≤ 65536 ^ ((dd x).length + (dd y).length) := Nat.pow_le_pow_right (by decide) (Nat.le_add_left _ _)
  rw [Nat.pow_succ]
  omega
theorem vl_dd_len {l : List Int} (h : L64 l) : (dd (vl l)).length ≤ 4 * l.length := dd_small (vl_lt h)
theorem cmp_dg (n : Nat) (hl : (dg n).length < 17592186044416) : Ev (fun f => nat_Cmp.f f (dg n) (dg n)) 0 := by
  have g := Cmp_ev (dg_L n) (dg_L n) hl hl
  rw [cmp3_eq_zero.2 rfl] at g
  exact g
end Go.Proofs.Ytanjbjenohdodaa.Q
