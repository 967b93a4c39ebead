/- Bytes in two parts as numbers: for every input. -/
import Derived.Test.YtbnbofflnpppfaaBx0
import Derived.Test.YtbnbofflnpppfaaBx20
import Derived.Test.YtbnbofflnpppfaaQA12
import Derived.Test.YtbnbofflnpppfaaQA10
import Derived.Test.YtbnbofflnpppfaaQA4
namespace Go.Proofs.Ytbnbofflnpppfaa.Pure
open Go.RowKit Go.Proofs.Ytbnbofflnpppfaa.B Go.Proofs.YtbnbofflnpppfaaW.PrintWords Go.Proofs.YtbnbofflnpppfaaW.PrintLast Go.Proofs.Ytbnbofflnpppfaa.Q
set_option linter.unusedVariables false

theorem rv_append (a b : List Int) : rv (a ++ b) = rv a * 2 ^ (8 * b.length) + rv b := by
  unfold rv
  rw [List.reverse_append, val_append, List.length_reverse, show (256 : Nat) ^ b.length = 2 ^ (8 * b.length) from by rw [Nat.pow_mul], Nat.mul_comm, Nat.add_comm]
theorem cmp3_self (a : Nat) : cmp3 a a = 0 := by unfold cmp3; simp
theorem dg_small {n k : Nat} (h : n < 18446744073709551616 ^ k) : (dg n).length ≤ k := dg_len.2 h
theorem NatParts : latchkeylaw01_NatParts.Pure := by
  intro a b hm hs hw hm2 hs2 hw2
  have hA : L8 a := fun x hx => wf_u8 (hw x hx)
  have hB : L8 b := fun x hx => wf_u8 (hw2 x hx)
  have ha : a.length < 281474976710656 := by omega
  have hb : b.length < 281474976710656 := by omega
  have hAB : L8 (a ++ b) := Dig.append hA hB
  refine Ev.rounds ?_
  unfold latchkeylaw01_NatParts.f
  refine Ev.bind awake_ev ?_
  simp only [if_true]
  have ew : wrap64 ((a.length : Int) + (b.length : Int)) = ((a.length + b.length : Nat) : Int) := w64 (by omega) (by omega)
  rw [ew]
  by_cases hc : 512 < a.length + b.length
  · exact Ev.congr (fun k => if_pos (by omega)) (Ev.now _)
  · refine Ev.congr (fun k => if_neg (by omega)) ?_
    have e1 : wrap64 ((-8) * (b.length : Int)) = -((8 * b.length : Nat) : Int) := by rw [w64 (by omega) (by omega)]; omega
    have e2 : wrap64 (8 * (b.length : Int)) = ((8 * b.length : Nat) : Int) := w64 (by omega) (by omega)
    have hx := rv_small hA (by omega)
    have hy := rv_small hB (by omega)
    have hz := rv_small hAB (by rw [List.length_append]; omega)
    have hxl := dg_small hx
    have hyl := dg_small hy
    have hzl := dg_small hz
    have hup := rv_append a b
    have hpow : rv a * 2 ^ (8 * b.length) < 18446744073709551616 ^ 64 := Nat.lt_of_le_of_lt (by rw [hup]; exact Nat.le_add_right _ _) hz
    have hsl := dg_small hpow
    refine Ev.bind (Read_ev hA (by omega)) ?_
    refine Ev.bind (Read_ev hB (by omega)) ?_
    refine Ev.bind (Ev.now _) ?_
    refine Ev.congr (fun k => if_pos (by simp; omega)) ?_
    refine Ev.bind (Ev.now _) ?_
    refine Ev.congr (fun k => if_pos (by simp; omega)) ?_
    simp only [List.nil_append]
    refine Ev.bind (Read_ev hAB (by rw [List.length_append]; omega)) ?_
    rw [e1, e2]
    have g1 := Shift_neg_ev (dg_L (rv a)) (by omega) (8 * b.length) (by omega)
    rw [vl_dg] at g1
    refine Ev.bind g1 ?_
    have g2 := Shift_down_ev (dg_L (rv (a ++ b))) (by omega) (8 * b.length) (by omega)
    rw [vl_dg] at g2
    refine Ev.bind g2 ?_
    simp only [if_true]
    have g3 := Add_ev (dg_L (rv a * 2 ^ (8 * b.length))) (dg_L (rv b)) (by omega) (by omega)
    rw [vl_dg, vl_dg, ← hup] at g3
    refine Ev.bind g3 ?_
    have g4 := Cmp_ev (dg_L (rv (a ++ b))) (dg_L (rv (a ++ b))) (by omega) (by omega)
    rw [cmp3_self] at g4
    refine Ev.bind g4 ?_
    simp only [if_true]
    have hlt : rv b < 2 ^ (8 * b.length) := by
      have := rv_lt hB
      rw [show (256 : Nat) ^ b.length = 2 ^ (8 * b.length) from by rw [Nat.pow_mul]] at this
      exact this
    have hd : rv (a ++ b) / 2 ^ (8 * b.length) = rv a := (div_digit hup hlt).1
    rw [hd]
    have g5 := Cmp_ev (dg_L (rv a)) (dg_L (rv a)) (by omega) (by omega)
    rw [cmp3_self] at g5
    refine Ev.bind g5 ?_
    exact Ev.now _
end Go.Proofs.Ytbnbofflnpppfaa.Pure
