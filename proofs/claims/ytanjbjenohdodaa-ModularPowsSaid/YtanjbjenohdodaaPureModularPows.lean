/- Any powers below a modulus: for every input. -/
import Derived.Test.YtanjbjenohdodaaBx0
import Derived.Test.YtanjbjenohdodaaSlatchkeylaw02ModularPows
import Derived.Test.YtanjbjenohdodaaQM4
namespace Go.Proofs.Ytanjbjenohdodaa.Pure
open Go.RowKit Go.Proofs.Ytanjbjenohdodaa.B Go.Proofs.YtanjbjenohdodaaW.PrintWords Go.Proofs.YtanjbjenohdodaaW.PrintLast Go.Proofs.Ytanjbjenohdodaa.Q
set_option linter.unusedVariables false

theorem Pows_ev (A N M : Nat) (hA : (dd A).length < 1000) (hN : (dd N).length < 1000) (hM : (dd M).length < 1000) (h0 : 0 < M) : Ev (fun k => Pows_clo.f k (dd A) (dd M) (dd N)) (dd (A ^ N % M)) := by
  have l1 := dd_mod (x := A) h0
  unfold Pows_clo.f
  refine Ev.bind (rMod_ev A M (by omega) (by omega) h0) ?_
  have g := rPow_ev (A % M) N M (by omega) (by omega) (by omega) h0
  rw [← Nat.pow_mod] at g
  exact g
theorem ModularPows : latchkeylaw02_ModularPows.Pure := by
  intro a b m hm hs hw hm2 hs2 hw2 hm3 hs3 hw3
  have hA : L64 a := fun x hx => wf_u64 (hw x hx)
  have hB : L64 b := fun x hx => wf_u64 (hw2 x hx)
  have hM : L64 m := fun x hx => wf_u64 (hw3 x hx)
  have ha : a.length < 17592186044416 := by omega
  have hb : b.length < 17592186044416 := by omega
  have hm' : m.length < 17592186044416 := by omega
  refine Ev.rounds ?_
  unfold latchkeylaw02_ModularPows.f
  refine Ev.bind awake2_ev ?_
  refine Ev.congr (fun k => if_pos rfl) ?_
  refine Ev.bind (long2_ev 5 (by decide) (by simp) (by intro x hx; simp at hx; rcases hx with rfl | rfl <;> assumption)) ?_
  simp only [List.any_cons, List.any_nil, Bool.or_false, Bool.or_eq_true, decide_eq_true_eq]
  by_cases hlong : 5 < a.length ∨ 5 < m.length
  · simp only [if_pos hlong]
    exact Ev.now _
  simp only [if_neg hlong]
  refine Ev.bind (long2_ev 2 (by decide) (by simp) (by intro x hx; simp at hx; subst hx; assumption)) ?_
  simp only [List.any_cons, List.any_nil, Bool.or_false, decide_eq_true_eq]
  by_cases hlong2 : 2 < b.length
  · simp only [if_pos hlong2]
    exact Ev.now _
  · simp only [if_neg hlong2]
    have da := vl_dd_len hA
    have db := vl_dd_len hB
    have dm := vl_dd_len hM
    refine Ev.bind (rOf_ev hA (by omega)) ?_
    refine Ev.bind (rOf_ev hB (by omega)) ?_
    refine Ev.bind (rOf_ev hM (by omega)) ?_
    by_cases h0 : vl m = 0
    · refine Ev.bind (mPow_zero hA hM (by omega) (by omega) h0) ?_
      refine Ev.bind (told_zero (vl m) h0 _) ?_
      exact Ev.congr (fun k => if_pos rfl) (Ev.now _)
    · have hp : 0 < vl m := by omega
      refine Ev.bind (mPow_ev hA hB hM (by omega) (by omega) (by omega) hp) ?_
      have l1 := mod_fits hM hp (vl a ^ vl b)
      have l2 := dd_mod (x := vl a ^ vl b) hp
      refine Ev.bind (told_ev (vl m) (vl a ^ vl b % vl m) h0 (by omega) (by omega) (Pows_ev (vl a) (vl b) (vl m) (by omega) (by omega) (by omega) hp)) ?_
      exact Ev.congr (fun k => if_pos rfl) (Ev.now _)
end Go.Proofs.Ytanjbjenohdodaa.Pure
