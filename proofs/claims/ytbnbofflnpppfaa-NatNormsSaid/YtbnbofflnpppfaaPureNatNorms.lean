/- Any limbs as a number, how many bits it has, and a small one: the program's answers are the document's, for every input. -/
import Derived.Test.YtbnbofflnpppfaaBx0
import Derived.Test.YtbnbofflnpppfaaBx8
import Derived.Test.YtbnbofflnpppfaaQA3
namespace Go.Proofs.Ytbnbofflnpppfaa.Pure
open Go.RowKit Go.Proofs.Ytbnbofflnpppfaa.B Go.Proofs.YtbnbofflnpppfaaW.PrintWords Go.Proofs.YtbnbofflnpppfaaW.PrintLast Go.Proofs.Ytbnbofflnpppfaa.Q
set_option linter.unusedVariables false

theorem NatNorms : latchkeylaw01_NatNorms.Pure := by
  intro l n hm hs hw hn
  have hL : L64 l := fun x hx => wf_u64 (hw x hx)
  have hl : l.length < 17592186044416 := by omega
  obtain ⟨n0, n1⟩ := wf_u64 hn
  refine Ev.rounds ?_
  unfold latchkeylaw01_NatNorms.f
  refine Ev.bind awake_ev ?_
  simp only [if_true]
  refine Ev.bind (long_ev (by simp) (by intro m hm'; rcases List.mem_singleton.1 hm' with rfl; exact hl)) ?_
  simp only [List.any_cons, List.any_nil, Bool.or_false, decide_eq_true_eq]
  by_cases hc : 70 < l.length
  · simp only [if_pos hc]
    exact Ev.now _
  · simp only [if_neg hc]
    refine Ev.bind (Ev.now _) ?_
    refine Ev.congr (fun k => if_pos (by simp; omega)) ?_
    refine Ev.bind (Ev.now _) ?_
    simp only [List.nil_append]
    have hv : (dd (vl l)).length ≤ 4 * l.length := dd_small (vl_lt hL)
    refine Ev.bind (rOf_ev hL (by omega)) ?_
    refine Ev.bind (Norm_ev hL hl) ?_
    refine Ev.bind (is_ev (by omega)) ?_
    simp only [if_true]
    refine Ev.bind (Len_ev hL (by omega)) ?_
    refine Ev.bind (rLen_ev (by omega)) ?_
    simp only [if_true]
    refine Ev.bind (Same_ev (by omega)) ?_
    simp only [if_true]
    refine Ev.bind (Of_ev n0 n1) ?_
    refine Ev.bind (rOf_ev (Dig.cons n0 n1 (Dig.nil _)) (by simp)) ?_
    have e : vl [n] = n.toNat := by simp [vl, val]
    have hv2 : (dd (vl [n])).length ≤ 4 * 1 := dd_small (by rw [e]; omega)
    rw [← e]
    exact Ev.bind (is_ev (by omega)) (Ev.now _)
end Go.Proofs.Ytbnbofflnpppfaa.Pure
