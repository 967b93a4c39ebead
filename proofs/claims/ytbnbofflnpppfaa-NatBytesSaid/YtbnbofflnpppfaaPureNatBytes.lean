/- Any number as any number of bytes: the program's are the document's, for every input. -/
import Derived.Test.YtbnbofflnpppfaaBx0
import Derived.Test.YtbnbofflnpppfaaBx29
import Derived.Test.YtbnbofflnpppfaaQA14
namespace Go.Proofs.Ytbnbofflnpppfaa.Pure
open Go.RowKit Go.Proofs.Ytbnbofflnpppfaa.B Go.Proofs.YtbnbofflnpppfaaW.PrintWords Go.Proofs.YtbnbofflnpppfaaW.PrintLast Go.Proofs.Ytbnbofflnpppfaa.Q
set_option linter.unusedVariables false

theorem wf_i64 {x : Int} (h : (Lit.int .i64 x).wf = true) : -9223372036854775808 ≤ x ∧ x ≤ 9223372036854775807 := by
  simp [Lit.wf, IntKind.min, IntKind.max, IntKind.signed, IntKind.bits] at h
  omega
theorem NatBytes : latchkeylaw01_NatBytes.Pure := by
  intro l size hm hs hw hb
  have hL : L64 l := fun x hx => wf_u64 (hw x hx)
  have hl : l.length < 17592186044416 := by omega
  have hsz := wf_i64 hb
  refine Ev.rounds ?_
  unfold latchkeylaw01_NatBytes.f
  refine Ev.bind awake_ev ?_
  simp only [if_true]
  refine Ev.bind (long_ev (by simp) (by intro x hx; simp at hx; rcases hx with rfl; assumption)) ?_
  simp only [List.any_cons, List.any_nil, Bool.or_false, decide_eq_true_eq]
  by_cases hc : 70 < l.length
  · simp only [if_pos hc]
    exact Ev.now _
  · simp only [if_neg hc]
    have hv : (dd (vl l)).length ≤ 4 * l.length := dd_small (vl_lt hL)
    refine Ev.bind (rOf_ev hL (by omega)) ?_
    by_cases h0 : size < 0
    · refine Ev.bind (Bytes_no size (.inl h0)) ?_
      refine Ev.congr (fun k => (if_pos h0).trans (if_neg (by decide))) (Ev.same (Ev.now _) (by rfl))
    · by_cases h5 : size > 512
      · refine Ev.bind (Bytes_no size (.inr h5)) ?_
        refine Ev.congr (fun k => (if_neg h0).trans ((if_pos h5).trans (if_neg (by decide)))) (Ev.same (Ev.now _) (by rfl))
      · obtain ⟨s, rfl⟩ := Int.eq_ofNat_of_zero_le (show 0 ≤ size by omega)
        have ew : wrap64 (8 * (s : Int)) = ((8 * s : Nat) : Int) := w64 (by omega) (by omega)
        by_cases hbl : 8 * s < bl (vl l)
        · refine Ev.bind (Bytes_more hL (by omega) s (by omega) hbl) ?_
          refine Ev.congr (fun k => (if_neg h0).trans (if_neg h5)) ?_
          refine Ev.bind (rLen_ev (by omega)) ?_
          rw [ew]
          refine Ev.congr (fun k => (if_pos (Int.ofNat_lt.2 hbl)).trans (if_neg (by decide))) (Ev.same (Ev.now _) (by rfl))
        · refine Ev.bind (Bytes_ev hL (by omega) s (by omega) (Nat.le_of_not_lt hbl)) ?_
          refine Ev.congr (fun k => (if_neg h0).trans (if_neg h5)) ?_
          refine Ev.bind (rLen_ev (by omega)) ?_
          rw [ew]
          refine Ev.congr (fun k => (if_neg (fun h => hbl (Int.ofNat_lt.1 h))).trans (if_pos rfl)) ?_
          refine Ev.bind (rBytes_ev _ s (by omega) (by omega)) ?_
          exact Ev.same (Ev.now _) (by simp)
end Go.Proofs.Ytbnbofflnpppfaa.Pure
