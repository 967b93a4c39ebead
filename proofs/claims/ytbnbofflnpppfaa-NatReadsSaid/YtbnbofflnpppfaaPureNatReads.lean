/- Any bytes as a number: the program's is the document's, for every input. -/
import Derived.Test.YtbnbofflnpppfaaBx0
import Derived.Test.YtbnbofflnpppfaaBx18
import Derived.Test.YtbnbofflnpppfaaQA10
namespace Go.Proofs.Ytbnbofflnpppfaa.Pure
open Go.RowKit Go.Proofs.Ytbnbofflnpppfaa.B Go.Proofs.YtbnbofflnpppfaaW.PrintWords Go.Proofs.YtbnbofflnpppfaaW.PrintLast Go.Proofs.Ytbnbofflnpppfaa.Q
set_option linter.unusedVariables false

theorem NatReads : latchkeylaw01_NatReads.Pure := by
  intro l hm hs hw
  have hL : L8 l := fun x hx => wf_u8 (hw x hx)
  refine Ev.rounds ?_
  unfold latchkeylaw01_NatReads.f
  refine Ev.bind awake_ev ?_
  simp only [if_true]
  by_cases h2 : 2000 < l.length
  · exact Ev.congr (fun k => if_pos (by omega)) (Ev.now _)
  · refine Ev.congr (fun k => if_neg (by omega)) ?_
    by_cases h5 : 512 < l.length
    · refine Ev.bind (Read_no h5) ?_
      exact Ev.congr (fun k => (if_pos (by omega)).trans (if_pos rfl)) (Ev.now _)
    · refine Ev.bind (Read_ev hL (by omega)) ?_
      refine Ev.congr (fun k => (if_neg (by omega)).trans (if_pos rfl)) ?_
      refine Ev.bind (rRead_ev hL (by omega)) ?_
      have hv := dd_small (rv_small hL (by omega))
      exact Ev.bind (is_ev (by omega)) (Ev.now _)
end Go.Proofs.Ytbnbofflnpppfaa.Pure
