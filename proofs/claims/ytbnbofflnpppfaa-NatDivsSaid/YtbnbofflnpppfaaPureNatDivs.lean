/- Any quotients, and what is left: the program's are the document's, for every input. -/
import Derived.Test.YtbnbofflnpppfaaBx0
import Derived.Test.YtbnbofflnpppfaaBx14
import Derived.Test.YtbnbofflnpppfaaQD4
namespace Go.Proofs.Ytbnbofflnpppfaa.Pure
open Go.RowKit Go.Proofs.Ytbnbofflnpppfaa.B Go.Proofs.YtbnbofflnpppfaaW.PrintWords Go.Proofs.YtbnbofflnpppfaaW.PrintLast Go.Proofs.Ytbnbofflnpppfaa.Q
set_option linter.unusedVariables false

theorem NatDivs : latchkeylaw01_NatDivs.Pure := by
  intro l m hm hs hw hm2 hs2 hw2
  have hL : L64 l := fun x hx => wf_u64 (hw x hx)
  have hM : L64 m := fun x hx => wf_u64 (hw2 x hx)
  have hl : l.length < 17592186044416 := by omega
  have hl2 : m.length < 17592186044416 := by omega
  refine Ev.rounds ?_
  unfold latchkeylaw01_NatDivs.f
  refine Ev.bind awake_ev ?_
  simp only [if_true]
  refine Ev.bind (long_ev (by simp) (by intro x hx; simp at hx; rcases hx with rfl | rfl <;> assumption)) ?_
  simp only [List.any_cons, List.any_nil, Bool.or_false, Bool.or_eq_true, decide_eq_true_eq]
  by_cases hc : 70 < l.length ∨ 70 < m.length
  · simp only [if_pos hc]
    exact Ev.now _
  · simp only [if_neg hc]
    have hv : (dd (vl l)).length ≤ 4 * l.length := dd_small (vl_lt hL)
    have hv2 : (dd (vl m)).length ≤ 4 * m.length := dd_small (vl_lt hM)
    refine Ev.bind (rOf_ev hL (by omega)) ?_
    refine Ev.bind (rOf_ev hM (by omega)) ?_
    rcases Nat.eq_zero_or_pos (vl m) with h0 | h0
    · refine Ev.bind (Div_zero hL hM (by omega) (by omega) h0) ?_
      rw [h0, show dd 0 = [] from digs_zero _]
      exact Ev.congr (fun k => (if_pos rfl).trans (if_neg (by decide))) (Ev.same (Ev.now _) (by show (wrap64 0 == 0) = true; rw [w64 (by decide) (by decide)]; rfl))
    · refine Ev.bind (Div_ev hL hM (by omega) (by omega) h0) ?_
      have hne : ¬ ((dd (vl m)).length : Int) = 0 := by
        intro h
        have := (digs_eq_nil (B := 65536) (n := vl m) (by decide)).1 (List.eq_nil_of_length_eq_zero (Int.ofNat_eq_zero.1 h))
        omega
      refine Ev.congr (fun k => if_neg hne) ?_
      refine Ev.bind (rDiv_ev _ _ (by omega) (by omega) h0) ?_
      simp only [if_true]
      have hv3 : (dd (vl l / vl m)).length ≤ 4 * l.length := dd_small (Nat.lt_of_le_of_lt (Nat.div_le_self _ _) (vl_lt hL))
      have hv4 : (dd (vl l % vl m)).length ≤ 4 * l.length := dd_small (Nat.lt_of_le_of_lt (Nat.mod_le _ _) (vl_lt hL))
      refine Ev.bind (is_ev (by omega)) ?_
      simp only [if_true]
      exact Ev.bind (is_ev (by omega)) (Ev.now _)
end Go.Proofs.Ytbnbofflnpppfaa.Pure
