/- A number multiplied, or divided, by 2 so often: the program's is the document's, for every input. -/
import Derived.Test.YtbnbofflnpppfaaBx0
import Derived.Test.YtbnbofflnpppfaaBx16
import Derived.Test.YtbnbofflnpppfaaQA12
namespace Go.Proofs.Ytbnbofflnpppfaa.Pure
open Go.RowKit Go.Proofs.Ytbnbofflnpppfaa.B Go.Proofs.YtbnbofflnpppfaaW.PrintWords Go.Proofs.YtbnbofflnpppfaaW.PrintLast Go.Proofs.Ytbnbofflnpppfaa.Q
set_option linter.unusedVariables false

theorem wf_i64 {x : Int} (h : (Lit.int .i64 x).wf = true) : -9223372036854775808 ≤ x ∧ x ≤ 9223372036854775807 := by
  simp [Lit.wf, IntKind.min, IntKind.max, IntKind.signed, IntKind.bits] at h
  omega
theorem shift_small (v n L : Nat) (h : v < 18446744073709551616 ^ L) : v * 2 ^ n < 18446744073709551616 ^ (L + (n / 64 + 1)) := by
  rw [Nat.pow_add]
  refine Nat.mul_lt_mul'' h ?_
  rw [pow64]
  exact Nat.pow_lt_pow_right (by decide) (by omega)
theorem NatShifts : latchkeylaw01_NatShifts.Pure := by
  intro l by_ hm hs hw hb
  have hL : L64 l := fun x hx => wf_u64 (hw x hx)
  have hl : l.length < 17592186044416 := by omega
  have hby := wf_i64 hb
  refine Ev.rounds ?_
  unfold latchkeylaw01_NatShifts.f
  refine Ev.bind awake_ev ?_
  simp only [if_true]
  have out : Ev (fun k => latchkeylaw01_NatShifts.j0 k l by_ true) true := by
    refine Ev.succ ?_
    simp only [latchkeylaw01_NatShifts.j0, if_true]
    exact Ev.now _
  by_cases hc : 20 < l.length
  · exact Ev.congr (fun k => if_pos (by omega)) out
  · refine Ev.congr (fun k => if_neg (by omega)) ?_
    by_cases h1 : by_ < -4096
    · exact Ev.congr (fun k => if_pos h1) out
    · refine Ev.congr (fun k => if_neg h1) ?_
      by_cases h2 : by_ > 2147483647
      · simp only [decide_eq_true h2]
        exact out
      · simp only [decide_eq_false h2]
        refine Ev.succ ?_
        simp only [latchkeylaw01_NatShifts.j0]
        refine Ev.congr (fun k => if_neg (by decide)) ?_
        have hv : (dd (vl l)).length ≤ 4 * l.length := dd_small (vl_lt hL)
        refine Ev.bind (rOf_ev hL (by omega)) ?_
        by_cases h0 : by_ < 0
        · refine Ev.congr (fun k => if_pos h0) ?_
          obtain ⟨n, hn⟩ : ∃ n : Nat, by_ = -(n : Int) := ⟨(-by_).toNat, by omega⟩
          subst hn
          have ew : wrap64 (-(-(n : Int))) = (n : Int) := by rw [w64 (by omega) (by omega)]; omega
          rw [ew]
          have hv2 := dd_small (shift_small (vl l) n l.length (vl_lt hL))
          refine Ev.bind (Shift_up_ev hL (by omega) n (by omega) (by omega)) ?_
          refine Ev.bind (rTwice_ev _ n (by omega) (by omega)) ?_
          exact Ev.bind (is_ev (by omega)) (Ev.now _)
        · refine Ev.congr (fun k => if_neg h0) ?_
          obtain ⟨n, hn⟩ : ∃ n : Nat, by_ = (n : Int) := ⟨by_.toNat, by omega⟩
          subst hn
          have hv2 : (dd (vl l / 2 ^ n)).length ≤ 4 * l.length := dd_small (Nat.lt_of_le_of_lt (Nat.div_le_self _ _) (vl_lt hL))
          refine Ev.bind (Shift_down_ev hL (by omega) n (by omega)) ?_
          refine Ev.bind (rHalf_ev _ n (by omega) (by omega)) ?_
          exact Ev.bind (is_ev (by omega)) (Ev.now _)
end Go.Proofs.Ytbnbofflnpppfaa.Pure
