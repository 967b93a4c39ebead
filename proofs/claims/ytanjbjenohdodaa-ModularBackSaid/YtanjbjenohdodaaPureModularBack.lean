/- What is added is taken away again; what is multiplied by a number with an inverse is multiplied back: for every input. -/
import Derived.Test.YtanjbjenohdodaaBx0
import Derived.Test.YtanjbjenohdodaaBx1
import Derived.Test.YtanjbjenohdodaaBx13
import Derived.Test.YtanjbjenohdodaaQM2
namespace Go.Proofs.Ytanjbjenohdodaa.Pure
open Go.RowKit Go.Proofs.Ytanjbjenohdodaa.B Go.Proofs.YtanjbjenohdodaaW.PrintWords Go.Proofs.YtanjbjenohdodaaW.PrintLast Go.Proofs.Ytanjbjenohdodaa.Q
set_option linter.unusedVariables false

theorem msub_back {A B M : Nat} (hM : 0 < M) : msub ((A + B) % M) B M = A % M := by
  have h1 := Nat.mod_lt A hM
  have h2 := Nat.mod_lt B hM
  unfold msub
  rw [Nat.mod_mod, Nat.add_mod A B M]
  rcases Nat.lt_or_ge (A % M + B % M) M with h | h
  · rw [Nat.mod_eq_of_lt h, show A % M + B % M + (M - B % M) = A % M + M from by omega, Nat.add_mod_right, Nat.mod_eq_of_lt h1]
  · rw [show A % M + B % M = (A % M + B % M - M) + M from by omega, Nat.add_mod_right, Nat.mod_eq_of_lt (a := A % M + B % M - M) (by omega), show A % M + B % M - M + (M - B % M) = A % M from by omega, Nat.mod_eq_of_lt h1]
theorem mul_back {A B z M : Nat} (h : z * B % M = 1 % M) : A * B % M * z % M = A % M := by
  rw [Nat.mod_mul_mod, Nat.mul_assoc, Nat.mul_comm B z, Nat.mul_mod, h, ← Nat.mul_mod, Nat.mul_one]
theorem gcd_of_inv {M z B : Nat} (h : z * B % M = 1 % M) : Nat.gcd M z = 1 := by
  have h1 : Nat.gcd M z ∣ M := Nat.gcd_dvd_left _ _
  have h2 : Nat.gcd M z ∣ z * B := Nat.dvd_trans (Nat.gcd_dvd_right _ _) (Nat.dvd_mul_right _ _)
  have h3 : Nat.gcd M z ∣ z * B % M := (Nat.dvd_mod_iff h1).2 h2
  rw [h] at h3
  exact Nat.dvd_one.1 ((Nat.dvd_mod_iff h1).1 h3)
theorem Cmp_same {l : List Int} (h : L64 l) (hl : l.length < 17592186044416) : Ev (fun f => nat_Cmp.f f l l) 0 := by
  have g := Cmp_ev h h hl hl
  rw [cmp3_eq_zero.2 rfl] at g
  exact g
theorem Cmp_dg (n : Nat) (hl : (dg n).length < 17592186044416) : Ev (fun f => nat_Cmp.f f (dg n) (dg n)) 0 := Cmp_same (dg_L n) hl
theorem ModularBack : latchkeylaw02_ModularBack.Pure := by
  intro a b m hm hs hw hm2 hs2 hw2 hm3 hs3 hw3
  have hA : L64 a := fun x hx => wf_u64 (hw x hx)
  have hB : L64 b := fun x hx => wf_u64 (hw2 x hx)
  have hM : L64 m := fun x hx => wf_u64 (hw3 x hx)
  have ha : a.length < 17592186044416 := by omega
  have hb : b.length < 17592186044416 := by omega
  have hm' : m.length < 17592186044416 := by omega
  refine Ev.rounds ?_
  unfold latchkeylaw02_ModularBack.f
  refine Ev.bind awake2_ev ?_
  refine Ev.congr (fun k => if_pos rfl) ?_
  refine Ev.bind (long2_ev 6 (by decide) (by simp) (by intro x hx; simp at hx; rcases hx with rfl | rfl | rfl <;> assumption)) ?_
  simp only [List.any_cons, List.any_nil, Bool.or_false, Bool.or_eq_true, decide_eq_true_eq]
  have hend : ∀ u, u = true → Ev (fun k => latchkeylaw02_ModularBack.j0 k a b m u) true := by
    rintro u rfl
    refine Ev.succ ?_
    simp only [latchkeylaw02_ModularBack.j0]
    exact Ev.congr (fun k => if_pos trivial) (Ev.now _)
  by_cases hlong : 6 < a.length ∨ 6 < b.length ∨ 6 < m.length
  · simp only [if_pos hlong]
    exact hend _ rfl
  · simp only [if_neg hlong]
    refine Ev.bind (Len_ev hM (by omega)) ?_
    by_cases h0 : vl m = 0
    · exact hend _ (by rw [h0, bl_zero]; rfl)
    · have hp : 0 < vl m := by omega
      have e : (((bl (vl m) : Nat) : Int) == 0) = false := beq_eq_false_iff_ne.2 fun e => h0 (bl_eq_zero.1 (by omega))
      rw [e]
      refine Ev.succ ?_
      simp only [latchkeylaw02_ModularBack.j0]
      refine Ev.congr (fun k => if_neg (by decide)) ?_
      refine Ev.bind (mOf_ev hA hM (by omega) (by omega) hp) ?_
      refine Ev.bind (mAdd_ev hA hB hM (by omega) (by omega) (by omega) hp) ?_
      have l1 := mod_fits hM hp (vl a + vl b)
      have g1 := mSub_ev (dg_L ((vl a + vl b) % vl m)) hB hM (by omega) (by omega) (by omega) hp
      rw [vl_dg, msub_back hp] at g1
      refine Ev.bind g1 ?_
      refine Ev.congr (fun k => if_pos rfl) ?_
      refine Ev.congr (fun k => if_pos rfl) ?_
      have l2 := mod_fits hM hp (vl a)
      refine Ev.bind (Cmp_dg (vl a % vl m) (by omega)) ?_
      refine Ev.succ ?_
      simp only [latchkeylaw02_ModularBack.j1]
      refine Ev.congr (fun k => if_neg (by decide)) ?_
      rcases mInv_ev hB hM (by omega) (by omega) hp with ⟨hg, z, hz, hzA, hE⟩ | ⟨hg, hE⟩
      · refine Ev.bind hE ?_
        refine Ev.congr (fun k => if_pos rfl) ?_
        refine Ev.bind (mMul_ev hA hB hM (by omega) (by omega) (by omega) hp) ?_
        have l3 := mod_fits hM hp (vl a * vl b)
        have lz : (dg z).length ≤ m.length := fits_of_le (Nat.le_of_lt hz) (vl_lt hM)
        have g2 := mMul_ev (dg_L (vl a * vl b % vl m)) (dg_L z) hM (by omega) (by omega) (by omega) hp
        rw [vl_dg, vl_dg, mul_back hzA] at g2
        refine Ev.bind g2 ?_
        rcases mInv_ev (dg_L z) hM (by omega) (by omega) hp with ⟨hg2, y, hy, hyA, hE2⟩ | ⟨hg2, hE2⟩
        · rw [vl_dg] at hyA
          have hu : y = vl b % vl m := inv_unique hy (Nat.mod_lt _ hp) hyA (by rw [Nat.mod_mul_mod, Nat.mul_comm]; exact hzA)
          subst hu
          refine Ev.bind hE2 ?_
          refine Ev.bind (mOf_ev hB hM (by omega) (by omega) hp) ?_
          refine Ev.congr (fun k => if_pos rfl) ?_
          refine Ev.congr (fun k => if_pos rfl) ?_
          refine Ev.bind (Cmp_dg (vl a % vl m) (by omega)) ?_
          refine Ev.congr (fun k => if_pos rfl) ?_
          have l4 := mod_fits hM hp (vl b)
          exact Ev.bind (Cmp_dg (vl b % vl m) (by omega)) (Ev.now _)
        · exact absurd (by rw [vl_dg]; exact gcd_of_inv hzA) hg2
      · refine Ev.bind hE ?_
        exact Ev.congr (fun k => if_neg (by decide)) (Ev.now _)
end Go.Proofs.Ytanjbjenohdodaa.Pure
