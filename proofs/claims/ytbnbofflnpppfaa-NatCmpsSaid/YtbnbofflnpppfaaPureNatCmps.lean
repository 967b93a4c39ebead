/- How any number stands to any other one: the program's answers are the document's, for every input. -/
import Derived.Test.YtbnbofflnpppfaaBx0
import Derived.Test.YtbnbofflnpppfaaBx10
import Derived.Test.YtbnbofflnpppfaaQA3
namespace Go.Proofs.Ytbnbofflnpppfaa.Pure
open Go.RowKit Go.Proofs.Ytbnbofflnpppfaa.B Go.Proofs.YtbnbofflnpppfaaW.PrintWords Go.Proofs.YtbnbofflnpppfaaW.PrintLast Go.Proofs.Ytbnbofflnpppfaa.Q
set_option linter.unusedVariables false

theorem cmp3_neg (a b : Nat) : cmp3 b a = wrap64 (-(cmp3 a b)) := by
  have h : -(cmp3 a b) = cmp3 b a := by unfold cmp3; split <;> split <;> omega
  rw [h, w64] <;> (unfold cmp3; split <;> (try split) <;> omega)
theorem NatCmps : latchkeylaw01_NatCmps.Pure := by
  intro l m hm hs hw hm2 hs2 hw2
  have hL : L64 l := fun x hx => wf_u64 (hw x hx)
  have hM : L64 m := fun x hx => wf_u64 (hw2 x hx)
  have hl : l.length < 17592186044416 := by omega
  have hl2 : m.length < 17592186044416 := by omega
  refine Ev.rounds ?_
  unfold latchkeylaw01_NatCmps.f
  refine Ev.bind awake_ev ?_
  simp only [if_true]
  refine Ev.bind (long_ev (by simp) (by intro x hx; simp at hx; rcases hx with rfl | rfl <;> assumption)) ?_
  simp only [List.any_cons, List.any_nil, Bool.or_false, Bool.or_eq_true, decide_eq_true_eq]
  by_cases hc : 70 < l.length ∨ 70 < m.length
  · simp only [if_pos hc]
    exact Ev.now _
  · simp only [if_neg hc]
    have hv : (dd (vl l)).length ≤ 4 * l.length := dd_small (vl_lt hL)
    have hv2 : (dd (vl m)).length ≤ 4 * m.length := dd_small (vl_lt hM)
    refine Ev.bind (rOf_ev hL (by omega)) ?_
    refine Ev.bind (rOf_ev hM (by omega)) ?_
    refine Ev.bind (Cmp_ev hL hM hl hl2) ?_
    refine Ev.bind (rcmp_ev _ _ (by omega)) ?_
    simp only [if_true]
    refine Ev.bind (Cmp_ev hM hL hl2 hl) ?_
    refine Ev.bind (rcmp_ev _ _ (by omega)) ?_
    refine Ev.congr (fun k => if_pos (cmp3_neg _ _)) ?_
    refine Ev.bind (Ev.now _) ?_
    refine Ev.congr (fun k => if_pos (by simp; omega)) ?_
    refine Ev.bind (Ev.now _) ?_
    refine Ev.congr (fun k => if_pos (by simp; omega)) ?_
    refine Ev.bind (Cmp_ev hL (Dig.append (by simpa using hL) (Dig.cons (by omega) (by omega) (Dig.nil _))) hl (by simp; omega)) ?_
    refine Ev.same (Ev.now _) ?_
    have e : vl ([] ++ l ++ [0]) = vl l := by
      unfold vl
      rw [List.nil_append, val_append]
      simp [val]
    rw [e]
    unfold cmp3
    simp
end Go.Proofs.Ytbnbofflnpppfaa.Pure
