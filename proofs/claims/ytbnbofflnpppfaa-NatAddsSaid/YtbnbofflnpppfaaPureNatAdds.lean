/- The sum and the difference of any two numbers: the program's are the document's, for every input. -/
import Derived.Test.YtbnbofflnpppfaaBx0
import Derived.Test.YtbnbofflnpppfaaBx19
import Derived.Test.YtbnbofflnpppfaaBx24
import Derived.Test.YtbnbofflnpppfaaBx25
import Derived.Test.YtbnbofflnpppfaaBx7
import Derived.Test.YtbnbofflnpppfaaQA7
namespace Go.Proofs.Ytbnbofflnpppfaa.Pure
open Go.RowKit Go.Proofs.Ytbnbofflnpppfaa.B Go.Proofs.YtbnbofflnpppfaaW.PrintWords Go.Proofs.YtbnbofflnpppfaaW.PrintLast Go.Proofs.Ytbnbofflnpppfaa.Q
set_option linter.unusedVariables false

theorem NatAdds : latchkeylaw01_NatAdds.Pure := by
  intro l m hm hs hw hm2 hs2 hw2
  have hL : L64 l := fun x hx => wf_u64 (hw x hx)
  have hM : L64 m := fun x hx => wf_u64 (hw2 x hx)
  have hl : l.length < 17592186044416 := by omega
  have hl2 : m.length < 17592186044416 := by omega
  refine Ev.rounds ?_
  unfold latchkeylaw01_NatAdds.f
  refine Ev.bind awake_ev ?_
  simp only [if_true]
  refine Ev.bind (long_ev (by simp) (by intro x hx; simp at hx; rcases hx with rfl | rfl <;> assumption)) ?_
  simp only [List.any_cons, List.any_nil, Bool.or_false, Bool.or_eq_true, decide_eq_true_eq]
  by_cases hc : 70 < l.length ∨ 70 < m.length
  · simp only [if_pos hc]
    exact Ev.now _
  · simp only [if_neg hc]
    have hv : (dd (vl l)).length ≤ 4 * l.length := dd_small (vl_lt hL)
    have hv2 : (dd (vl m)).length ≤ 4 * m.length := dd_small (vl_lt hM)
    have hv3 : (dd (vl l + vl m)).length ≤ 4 * 71 := dd_small (by
      have h1 : vl l < 18446744073709551616 ^ 70 := Nat.lt_of_lt_of_le (vl_lt hL) (Nat.pow_le_pow_right (by omega) (by omega))
      have h2 : vl m < 18446744073709551616 ^ 70 := Nat.lt_of_lt_of_le (vl_lt hM) (Nat.pow_le_pow_right (by omega) (by omega))
      have h3 : 18446744073709551616 ^ 71 = 18446744073709551616 ^ 70 * 18446744073709551616 := Nat.pow_succ ..
      generalize 18446744073709551616 ^ 70 = P at *
      omega)
    refine Ev.bind (rOf_ev hL (by omega)) ?_
    refine Ev.bind (rOf_ev hM (by omega)) ?_
    have last : Ev (fun k => latchkeylaw01_NatAdds.j0 k l m (dd (vl l)) (dd (vl m)) false) true := by
      refine Ev.step (f := fun k => (nat_Add.f k l m).bind fun t634 => ((latchkeyref01_Add.f k (dd (vl l)) (dd (vl m))).bind fun t637 => ((latchkeylaw01_is.f k t634 t637).bind fun t640 => (some t640)))) (fun k => ?_) ?_
      · simp only [latchkeylaw01_NatAdds.j0]
        rw [if_neg (by simp)]
      · refine Ev.bind (Add_ev hL hM (by omega) (by omega)) ?_
        refine Ev.bind (rAdd_ev _ _ (by omega) (by omega)) ?_
        refine Ev.bind (is_ev (by omega)) ?_
        exact Ev.now _
    rcases Nat.lt_or_ge (vl l) (vl m) with h | h
    · refine Ev.bind (Sub_no hL hM (by omega) (by omega) h) ?_
      refine Ev.bind (rcmp_ev _ _ (by omega)) ?_
      have e : cmp3 (vl l) (vl m) = -1 := by unfold cmp3; rw [if_pos h]
      rw [e]
      exact last
    · refine Ev.bind (Sub_ev hL hM (by omega) (by omega) h) ?_
      refine Ev.bind (rcmp_ev _ _ (by omega)) ?_
      have e : cmp3 (vl l) (vl m) ≥ 0 := by unfold cmp3; rw [if_neg (by omega)]; split <;> omega
      have e2 : ¬ ((true, dg (vl l)).1 != decide (cmp3 (vl l) (vl m) ≥ 0)) = true := by rw [decide_eq_true e]; simp
      refine Ev.congr (fun k => if_neg e2) ?_
      refine Ev.congr (fun k => if_pos rfl) ?_
      have hv4 : (dd (vl l - vl m)).length ≤ 4 * l.length := dd_small (Nat.lt_of_le_of_lt (Nat.sub_le _ _) (vl_lt hL))
      refine Ev.bind (rSub_ev _ _ (by omega) (by omega) h) ?_
      refine Ev.bind (is_ev (by omega)) ?_
      exact last
end Go.Proofs.Ytbnbofflnpppfaa.Pure
