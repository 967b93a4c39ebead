/- Bytes as a number, and that as as many bytes, are the bytes: for every input. -/
import Derived.Test.YtbnbofflnpppfaaBx0
import Derived.Test.YtbnbofflnpppfaaBx30
import Derived.Test.YtbnbofflnpppfaaQA13
namespace Go.Proofs.Ytbnbofflnpppfaa.Pure
open Go.RowKit Go.Proofs.Ytbnbofflnpppfaa.B Go.Proofs.YtbnbofflnpppfaaW.PrintWords Go.Proofs.YtbnbofflnpppfaaW.PrintLast Go.Proofs.Ytbnbofflnpppfaa.Q
set_option linter.unusedVariables false

theorem cmp3_self (a : Nat) : cmp3 a a = 0 := by unfold cmp3; simp
theorem bs_rv (l : List Int) (hL : L8 l) : bs (rv l) l.length = l := by
  refine (bs_ext (rv l) l.length l rfl (fun j hj => ?_)).symm
  have h := digit_of (B := 256) (by decide) (rev_dig hL) j
  rw [getD_rev l j hj] at h
  exact h
theorem rv_zeros (l : List Int) (n : Nat) : rv (List.replicate n 0 ++ l) = rv l := by
  unfold rv
  rw [List.reverse_append, val_append, List.reverse_replicate, val_zeros, Nat.mul_zero, Nat.add_zero]
theorem rv_bl {l : List Int} (hL : L8 l) : bl (rv l) ≤ 8 * l.length := by
  refine bl_le _ _ ?_
  have := rv_lt hL
  rw [show (256 : Nat) = 2 ^ 8 from rfl, ← Nat.pow_mul] at this
  exact this
theorem NatTexts : latchkeylaw01_NatTexts.Pure := by
  intro l z hm hs hw hz
  have hL : L8 l := fun x hx => wf_u8 (hw x hx)
  obtain ⟨z0, z1⟩ := wf_u8 hz
  obtain ⟨n, rfl⟩ := Int.eq_ofNat_of_zero_le z0
  have hl : l.length < 281474976710656 := by omega
  refine Ev.rounds ?_
  unfold latchkeylaw01_NatTexts.f
  refine Ev.bind awake_ev ?_
  simp only [if_true]
  have e1 : wrap64 (n : Int) = (n : Int) := w64 (by omega) (by omega)
  have e2 : wrap64 ((l.length : Int) + (n : Int)) = ((l.length + n : Nat) : Int) := w64 (by omega) (by omega)
  rw [e1, e2]
  by_cases hc : 512 < l.length + n
  · exact Ev.congr (fun k => if_pos (by omega)) (Ev.now _)
  · refine Ev.congr (fun k => if_neg (by omega)) ?_
    have hZ : L8 (List.replicate n 0 ++ l) := Dig.append (Dig.zeros _ _ (by decide)) hL
    have hsm := rv_small hL (by omega)
    have hsl : (dg (rv l)).length ≤ 64 := dg_len.2 hsm
    refine Ev.bind (Read_ev hL (by omega)) ?_
    refine Ev.congr (fun k => (if_pos (Int.natCast_nonneg n)).trans (if_pos (by rw [Int.toNat_natCast]; omega))) ?_
    rw [Int.toNat_natCast]
    refine Ev.bind (Ev.now _) ?_
    refine Ev.congr (fun k => if_pos (by rw [List.length_replicate]; omega)) ?_
    have g1 := Read_ev hZ (by rw [List.length_append, List.length_replicate]; omega)
    rw [rv_zeros] at g1
    refine Ev.bind g1 ?_
    have g2 := Bytes_ev (dg_L (rv l)) (by omega) l.length (by omega) (by rw [vl_dg]; exact rv_bl hL)
    rw [vl_dg, bs_rv l hL] at g2
    refine Ev.bind g2 ?_
    simp only [if_true]
    have g3 := Cmp_ev (dg_L (rv l)) (dg_L (rv l)) (by omega) (by omega)
    rw [cmp3_self] at g3
    refine Ev.bind g3 ?_
    exact Ev.now _
end Go.Proofs.Ytbnbofflnpppfaa.Pure
