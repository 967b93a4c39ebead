/- What is divided, multiplied again, with what is left, is what it was: for every input. -/
import Derived.Test.YtbnbofflnpppfaaBx0
import Derived.Test.YtbnbofflnpppfaaBx26
import Derived.Test.YtbnbofflnpppfaaQD4
namespace Go.Proofs.Ytbnbofflnpppfaa.Pure
open Go.RowKit Go.Proofs.Ytbnbofflnpppfaa.B Go.Proofs.YtbnbofflnpppfaaW.PrintWords Go.Proofs.YtbnbofflnpppfaaW.PrintLast Go.Proofs.Ytbnbofflnpppfaa.Q
set_option linter.unusedVariables false

theorem cmp3_self (a : Nat) : cmp3 a a = 0 := by unfold cmp3; simp
theorem bl_eq_zero {n : Nat} (h : bl n = 0) : n = 0 := by
  have := lt_bl n
  rw [h] at this
  omega
theorem dg_small {n k : Nat} (h : n < 18446744073709551616 ^ k) : (dg n).length ≤ k := dg_len.2 h
theorem NatBack : latchkeylaw01_NatBack.Pure := by
  intro a b hm hs hw hm2 hs2 hw2
  have hA : L64 a := fun x hx => wf_u64 (hw x hx)
  have hB : L64 b := fun x hx => wf_u64 (hw2 x hx)
  have ha : a.length < 17592186044416 := by omega
  have hb : b.length < 17592186044416 := by omega
  have out : Ev (fun k => latchkeylaw01_NatBack.j0 k a b true) true := by
    refine Ev.succ ?_
    simp only [latchkeylaw01_NatBack.j0, if_true]
    exact Ev.now _
  refine Ev.rounds ?_
  unfold latchkeylaw01_NatBack.f
  refine Ev.bind awake_ev ?_
  simp only [if_true]
  refine Ev.bind (long_ev (by simp) (by intro x hx; simp at hx; rcases hx with rfl | rfl <;> assumption)) ?_
  simp only [List.any_cons, List.any_nil, Bool.or_false, Bool.or_eq_true, decide_eq_true_eq]
  by_cases hc : 70 < a.length ∨ 70 < b.length
  · simp only [if_pos hc]
    exact out
  · simp only [if_neg hc]
    refine Ev.bind (Len_ev hB (by omega)) ?_
    rcases Nat.eq_zero_or_pos (vl b) with h0 | h0
    · rw [h0, bl_zero]
      exact out
    · have hne : ((bl (vl b) : Int) == 0) = false := beq_eq_false_iff_ne.2 (fun h => by
        have := bl_eq_zero (Int.ofNat_eq_zero.1 h)
        omega)
      rw [hne]
      refine Ev.succ ?_
      simp only [latchkeylaw01_NatBack.j0]
      refine Ev.congr (fun k => if_neg (by decide)) ?_
      have vA := vl_lt hA
      have vB := vl_lt hB
      have lq : (dg (vl a / vl b)).length ≤ a.length := dg_small (Nat.lt_of_le_of_lt (Nat.div_le_self _ _) vA)
      have lr : (dg (vl a % vl b)).length ≤ a.length := dg_small (Nat.lt_of_le_of_lt (Nat.mod_le _ _) vA)
      have lp : (dg (vl a * vl b)).length ≤ a.length + b.length := dg_small (by rw [Nat.pow_add]; exact Nat.mul_lt_mul'' vA vB)
      have lqb : (dg (vl a / vl b * vl b)).length ≤ a.length := dg_small (Nat.lt_of_le_of_lt (Nat.div_mul_le_self _ _) vA)
      have la : (dg (vl a)).length ≤ a.length := dg_small vA
      refine Ev.bind (Div_ev hA hB (by omega) (by omega) h0) ?_
      refine Ev.bind (Mul_ev hA hB (by omega) (by omega)) ?_
      have g1 := Div_ev (dg_L (vl a * vl b)) hB (by omega) (by omega) h0
      rw [vl_dg, Nat.mul_div_cancel _ h0, Nat.mul_mod_left] at g1
      refine Ev.bind g1 ?_
      simp only [if_true]
      have g2 := Mul_ev (dg_L (vl a / vl b)) hB (by omega) (by omega)
      rw [vl_dg] at g2
      refine Ev.bind g2 ?_
      have g3 := Add_ev (dg_L (vl a / vl b * vl b)) (dg_L (vl a % vl b)) (by omega) (by omega)
      rw [vl_dg, vl_dg, Nat.div_add_mod'] at g3
      refine Ev.bind g3 ?_
      have g4 := Cmp_ev (dg_L (vl a)) hA (by omega) (by omega)
      rw [vl_dg, cmp3_self] at g4
      refine Ev.bind g4 ?_
      simp only [if_true]
      have g5 := Cmp_ev (dg_L (vl a % vl b)) hB (by omega) (by omega)
      rw [vl_dg, show cmp3 (vl a % vl b) (vl b) = -1 from by unfold cmp3; rw [if_pos (Nat.mod_lt _ h0)]] at g5
      refine Ev.bind g5 ?_
      refine Ev.congr (fun k => if_pos (by decide)) ?_
      refine Ev.bind g4 ?_
      simp only [if_true]
      have g6 := Len_ev (dg_L 0) (by rw [show dg 0 = [] from digs_zero _]; decide)
      rw [vl_dg, bl_zero] at g6
      exact Ev.bind g6 (Ev.now _)
end Go.Proofs.Ytbnbofflnpppfaa.Pure
