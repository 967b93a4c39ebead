/- What has an inverse below a modulus, and what hasn't: for every input. -/
import Derived.Test.YtanjbjenohdodaaBx0
import Derived.Test.YtanjbjenohdodaaBx10
import Derived.Test.YtanjbjenohdodaaQM2
namespace Go.Proofs.Ytanjbjenohdodaa.Pure
open Go.RowKit Go.Proofs.Ytanjbjenohdodaa.B Go.Proofs.YtanjbjenohdodaaW.PrintWords Go.Proofs.YtanjbjenohdodaaW.PrintLast Go.Proofs.Ytanjbjenohdodaa.Q
set_option linter.unusedVariables false

theorem gcd_red (M A : Nat) : Nat.gcd M (A % M) = Nat.gcd M A := by rw [Nat.gcd_comm M (A % M), ← Nat.gcd_rec]
theorem mod_small {n M k : Nat} (hM : M < 18446744073709551616 ^ k) (h0 : 0 < M) : n % M < 18446744073709551616 ^ k := Nat.lt_trans (Nat.mod_lt _ h0) hM
theorem up_to {x k l : Nat} (h : x < 18446744073709551616 ^ k) (hkl : k ≤ l) : x < 18446744073709551616 ^ l := Nat.lt_of_lt_of_le h (Nat.pow_le_pow_right (by decide) hkl)
theorem mul_small {x y k l : Nat} (hx : x < 18446744073709551616 ^ k) (hy : y < 18446744073709551616 ^ l) : x * y < 18446744073709551616 ^ (k + l) := by
  rw [Nat.pow_add]
  exact Nat.mul_lt_mul'' hx hy
theorem ModularInvs : latchkeylaw02_ModularInvs.Pure := by
  intro a m hm hs hw hm2 hs2 hw2
  have hA : L64 a := fun x hx => wf_u64 (hw x hx)
  have hM : L64 m := fun x hx => wf_u64 (hw2 x hx)
  have ha : a.length < 17592186044416 := by omega
  have hm' : m.length < 17592186044416 := by omega
  refine Ev.rounds ?_
  unfold latchkeylaw02_ModularInvs.f
  refine Ev.bind awake2_ev ?_
  refine Ev.congr (fun k => if_pos rfl) ?_
  refine Ev.bind (long2_ev 6 (by decide) (by simp) (by intro x hx; simp at hx; rcases hx with rfl | rfl <;> assumption)) ?_
  simp only [List.any_cons, List.any_nil, Bool.or_false, Bool.or_eq_true, decide_eq_true_eq]
  by_cases hlong : 6 < a.length ∨ 6 < m.length
  · simp only [if_pos hlong]
    exact Ev.now _
  · simp only [if_neg hlong]
    have va : vl a < 18446744073709551616 ^ 6 := up_to (vl_lt hA) (by omega)
    have vm : vl m < 18446744073709551616 ^ 6 := up_to (vl_lt hM) (by omega)
    have da := dd_small va
    have dm := dd_small vm
    refine Ev.bind (rOf_ev hA (by omega)) ?_
    refine Ev.bind (rOf_ev hM (by omega)) ?_
    by_cases h0 : vl m = 0
    · refine Ev.bind (mInv_zero hA hM (by omega) (by omega) h0) ?_
      refine Ev.congr (fun k => if_pos (by rw [dd_nil.2 h0]; rfl)) ?_
      exact Ev.congr (fun k => if_pos rfl) (Ev.now _)
    · have hp : 0 < vl m := by omega
      have hne : ¬ ((dd (vl m)).length : Int) = 0 := fun e => h0 (dd_nil.1 (by omega))
      have dr := dd_small (mod_small (n := vl a) vm hp)
      have g1 := rMod_ev (vl a) (vl m) (by omega) (by omega) hp
      have g2 := rGcd_ev (vl m) (vl a % vl m) (by omega) (by omega)
      rw [gcd_red] at g2
      have d1 : (dd 1).length ≤ 4 * 1 := dd_small (by decide)
      have gle : Nat.gcd (vl m) (vl a) ≤ vl m := Nat.le_of_dvd hp (Nat.gcd_dvd_left _ _)
      have dgl := len_le_dd gle
      have g3 := rcmp_ev (Nat.gcd (vl m) (vl a)) 1 (by omega)
      rcases mInv_ev hA hM (by omega) (by omega) hp with ⟨hg, z, hz, hzA, hE⟩ | ⟨hg, hE⟩
      · refine Ev.bind hE ?_
        refine Ev.congr (fun k => if_neg hne) ?_
        refine Ev.bind (Small_ev 1 (by decide)) ?_
        refine Ev.bind g1 ?_
        refine Ev.bind g2 ?_
        refine Ev.bind g3 ?_
        rw [hg]
        refine Ev.congr (fun k => if_pos rfl) ?_
        have vz : z < 18446744073709551616 ^ 6 := Nat.lt_trans hz vm
        have dz := dd_small vz
        have lz : (dg z).length ≤ 6 := dg_len.2 vz
        have g4 := rOf_ev (dg_L z) (by omega)
        rw [vl_dg] at g4
        refine Ev.bind g4 ?_
        refine Ev.congr (fun k => if_pos rfl) ?_
        refine Ev.bind (rcmp_ev z (vl m) (by omega)) ?_
        refine Ev.congr (fun k => if_pos (by unfold cmp3; rw [if_pos hz]; decide)) ?_
        refine Ev.bind (rNat_ev z (by omega)) ?_
        refine Ev.bind (Same_ev (l := dg z) (by omega)) ?_
        refine Ev.congr (fun k => if_pos rfl) ?_
        have dp := dd_small (mul_small va vz)
        refine Ev.bind (rMul_ev (vl a) z (by omega) (by omega)) ?_
        refine Ev.bind (rMod_ev (vl a * z) (vl m) (by omega) (by omega) hp) ?_
        refine Ev.bind (rMod_ev 1 (vl m) (by omega) (by omega) hp) ?_
        have dq := dd_small (mod_small (n := vl a * z) vm hp)
        refine Ev.bind (rcmp_ev (vl a * z % vl m) (1 % vl m) (by omega)) ?_
        rw [Nat.mul_comm (vl a) z, hzA, cmp3_eq_zero.2 rfl]
        exact Ev.now _
      · refine Ev.bind hE ?_
        refine Ev.congr (fun k => if_neg hne) ?_
        refine Ev.bind (Small_ev 1 (by decide)) ?_
        refine Ev.bind g1 ?_
        refine Ev.bind g2 ?_
        refine Ev.bind g3 ?_
        refine Ev.congr (fun k => if_neg (by rw [cmp3_eq_zero]; exact hg)) ?_
        exact Ev.congr (fun k => if_pos rfl) (Ev.now _)
end Go.Proofs.Ytanjbjenohdodaa.Pure
