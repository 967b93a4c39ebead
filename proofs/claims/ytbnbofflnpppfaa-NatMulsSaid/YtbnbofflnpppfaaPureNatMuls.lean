/- The product of any two numbers: the program's is the document's, for every input. -/
import Derived.Test.YtbnbofflnpppfaaBx0
import Derived.Test.YtbnbofflnpppfaaBx23
import Derived.Test.YtbnbofflnpppfaaQA6
namespace Go.Proofs.Ytbnbofflnpppfaa.Pure
open Go.RowKit Go.Proofs.Ytbnbofflnpppfaa.B Go.Proofs.YtbnbofflnpppfaaW.PrintWords Go.Proofs.YtbnbofflnpppfaaW.PrintLast Go.Proofs.Ytbnbofflnpppfaa.Q
set_option linter.unusedVariables false

theorem NatMuls : latchkeylaw01_NatMuls.Pure := by
  intro l m hm hs hw hm2 hs2 hw2
  have hL : L64 l := fun x hx => wf_u64 (hw x hx)
  have hM : L64 m := fun x hx => wf_u64 (hw2 x hx)
  have hl : l.length < 17592186044416 := by omega
  have hl2 : m.length < 17592186044416 := by omega
  refine Ev.rounds ?_
  unfold latchkeylaw01_NatMuls.f
  refine Ev.bind awake_ev ?_
  simp only [if_true]
  refine Ev.bind (long_ev (by simp) (by intro x hx; simp at hx; rcases hx with rfl | rfl <;> assumption)) ?_
  simp only [List.any_cons, List.any_nil, Bool.or_false, Bool.or_eq_true, decide_eq_true_eq]
  by_cases hc : 70 < l.length ∨ 70 < m.length
  · simp only [if_pos hc]
    exact Ev.now _
  · simp only [if_neg hc]
    have hv : (dd (vl l)).length ≤ 4 * l.length := dd_small (vl_lt hL)
    have hv2 : (dd (vl m)).length ≤ 4 * m.length := dd_small (vl_lt hM)
    have hv3 : (dd (vl l * vl m)).length ≤ 4 * (l.length + m.length) := dd_small (by rw [Nat.pow_add]; exact Nat.mul_lt_mul'' (vl_lt hL) (vl_lt hM))
    refine Ev.bind (Mul_ev hL hM (by omega) (by omega)) ?_
    refine Ev.bind (rOf_ev hL (by omega)) ?_
    refine Ev.bind (rOf_ev hM (by omega)) ?_
    refine Ev.bind (rMul_ev _ _ (by omega) (by omega)) ?_
    refine Ev.bind (is_ev (by omega)) ?_
    exact Ev.now _
end Go.Proofs.Ytbnbofflnpppfaa.Pure
