/- Any numbers, sums, products, below any modulus: for every input. -/
import Derived.Test.YtanjbjenohdodaaBx0
import Derived.Test.YtanjbjenohdodaaSlatchkeylaw02ModularSums
import Derived.Test.YtanjbjenohdodaaQM4
namespace Go.Proofs.Ytanjbjenohdodaa.Pure
open Go.RowKit Go.Proofs.Ytanjbjenohdodaa.B Go.Proofs.YtanjbjenohdodaaW.PrintWords Go.Proofs.YtanjbjenohdodaaW.PrintLast Go.Proofs.Ytanjbjenohdodaa.Q
set_option linter.unusedVariables false

theorem Sums_ev2 (A B M : Nat) (hA : (dd A).length < 1000) (hB : (dd B).length < 1000) (hM : (dd M).length < 1000) (h0 : 0 < M) : Ev (fun k => Sums_clo2.f k (dd A) (dd B) (dd M)) (dd ((A + B) % M)) := by
  have l1 := dd_add A B
  unfold Sums_clo2.f
  refine Ev.bind (rAdd_ev A B (by omega) (by omega)) ?_
  exact rMod_ev (A + B) M (by omega) (by omega) h0
theorem Sums_ev3 (A B M : Nat) (hA : (dd A).length < 1000) (hB : (dd B).length < 1000) (hM : (dd M).length < 1000) (h0 : 0 < M) : Ev (fun k => Sums_clo3.f k (dd A) (dd B) (dd M)) (dd (A * B % M)) := by
  have l1 := dd_mul A B
  unfold Sums_clo3.f
  refine Ev.bind (rMul_ev A B (by omega) (by omega)) ?_
  exact rMod_ev (A * B) M (by omega) (by omega) h0
theorem Sums_ev1 (A M : Nat) (hA : (dd A).length < 1000) (hM : (dd M).length < 1000) (h0 : 0 < M) : Ev (fun k => Sums_clo1.f k (dd A) (dd M)) (dd (A % M)) := by
  unfold Sums_clo1.f
  exact rMod_ev A M (by omega) (by omega) h0
theorem ModularSums : latchkeylaw02_ModularSums.Pure := by
  intro a b m hm hs hw hm2 hs2 hw2 hm3 hs3 hw3
  have hA : L64 a := fun x hx => wf_u64 (hw x hx)
  have hB : L64 b := fun x hx => wf_u64 (hw2 x hx)
  have hM : L64 m := fun x hx => wf_u64 (hw3 x hx)
  have ha : a.length < 17592186044416 := by omega
  have hb : b.length < 17592186044416 := by omega
  have hm' : m.length < 17592186044416 := by omega
  refine Ev.rounds ?_
  unfold latchkeylaw02_ModularSums.f
  refine Ev.bind awake2_ev ?_
  refine Ev.congr (fun k => if_pos rfl) ?_
  refine Ev.bind (long2_ev 40 (by decide) (by simp) (by intro x hx; simp at hx; rcases hx with rfl | rfl | rfl <;> assumption)) ?_
  simp only [List.any_cons, List.any_nil, Bool.or_false, Bool.or_eq_true, decide_eq_true_eq]
  by_cases hlong : 40 < a.length ∨ 40 < b.length ∨ 40 < m.length
  · simp only [if_pos hlong]
    exact Ev.now _
  · simp only [if_neg hlong]
    have da := vl_dd_len hA
    have db := vl_dd_len hB
    have dm := vl_dd_len hM
    refine Ev.bind (rOf_ev hA (by omega)) ?_
    refine Ev.bind (rOf_ev hB (by omega)) ?_
    refine Ev.bind (rOf_ev hM (by omega)) ?_
    by_cases h0 : vl m = 0
    · refine Ev.bind (mOf_zero hA hM (by omega) (by omega) h0) ?_
      refine Ev.bind (mAdd_zero hA hB hM (by omega) (by omega) (by omega) h0) ?_
      refine Ev.bind (mMul_zero hA hB hM (by omega) (by omega) (by omega) h0) ?_
      refine Ev.bind (told_zero (vl m) h0 _) ?_
      refine Ev.congr (fun k => if_pos rfl) ?_
      refine Ev.bind (told_zero (vl m) h0 _) ?_
      refine Ev.congr (fun k => if_pos rfl) ?_
      refine Ev.bind (told_zero (vl m) h0 _) ?_
      exact Ev.congr (fun k => if_pos rfl) (Ev.now _)
    · have hp : 0 < vl m := by omega
      refine Ev.bind (mOf_ev hA hM (by omega) (by omega) hp) ?_
      refine Ev.bind (mAdd_ev hA hB hM (by omega) (by omega) (by omega) hp) ?_
      refine Ev.bind (mMul_ev hA hB hM (by omega) (by omega) (by omega) hp) ?_
      have l1 := mod_fits hM hp (vl a)
      have l2 := dd_mod (x := vl a) hp
      have l3 := mod_fits hM hp (vl a + vl b)
      have l4 := dd_mod (x := vl a + vl b) hp
      have l5 := mod_fits hM hp (vl a * vl b)
      have l6 := dd_mod (x := vl a * vl b) hp
      refine Ev.bind (told_ev (vl m) (vl a % vl m) h0 (by omega) (by omega) (Sums_ev1 (vl a) (vl m) (by omega) (by omega) hp)) ?_
      refine Ev.congr (fun k => if_pos rfl) ?_
      refine Ev.bind (told_ev (vl m) ((vl a + vl b) % vl m) h0 (by omega) (by omega) (Sums_ev2 (vl a) (vl b) (vl m) (by omega) (by omega) (by omega) hp)) ?_
      refine Ev.congr (fun k => if_pos rfl) ?_
      refine Ev.bind (told_ev (vl m) (vl a * vl b % vl m) h0 (by omega) (by omega) (Sums_ev3 (vl a) (vl b) (vl m) (by omega) (by omega) (by omega) hp)) ?_
      exact Ev.congr (fun k => if_pos rfl) (Ev.now _)
end Go.Proofs.Ytanjbjenohdodaa.Pure
