/- A multiple of the modulus more changes nothing: for every input. -/
import Derived.Test.YtanjbjenohdodaaBx0
import Derived.Test.YtanjbjenohdodaaBx1
import Derived.Test.YtanjbjenohdodaaBx11
import Derived.Test.YtanjbjenohdodaaQM2
namespace Go.Proofs.Ytanjbjenohdodaa.Pure
open Go.RowKit Go.Proofs.Ytanjbjenohdodaa.B Go.Proofs.YtanjbjenohdodaaW.PrintWords Go.Proofs.YtanjbjenohdodaaW.PrintLast Go.Proofs.Ytanjbjenohdodaa.Q
set_option linter.unusedVariables false

theorem up_to {x k l : Nat} (h : x < 18446744073709551616 ^ k) (hkl : k ≤ l) : x < 18446744073709551616 ^ l := Nat.lt_of_lt_of_le h (Nat.pow_le_pow_right (by decide) hkl)
theorem msub_more (A B K M : Nat) : msub (A + K * M) B M = msub A B M := by unfold msub; rw [Nat.add_mul_mod_self_right]
theorem gcd_more (A K M : Nat) : Nat.gcd M (A + K * M) = Nat.gcd M A := by rw [Nat.gcd_rec M A, Nat.gcd_rec M (A + K * M), Nat.add_mul_mod_self_right]
theorem inv_more {w A K M : Nat} (h : w * (A + K * M) % M = 1 % M) : w * A % M = 1 % M := by
  rw [Nat.mul_add, ← Nat.mul_assoc, Nat.add_mul_mod_self_right] at h
  exact h
theorem inv_alike {A K M : Nat} {g f : Nat → Option (List Int × Int)} (h : InvTo M A g) (k : InvTo M (A + K * M) f) : ∃ x : List Int × Int, Ev g x ∧ Ev f x ∧ (x.1 = [] ∨ ∃ z, z < M ∧ x.1 = dg z) := by
  rcases h with ⟨h1, z, h2, h3, h4⟩ | ⟨h1, h2⟩
  · rcases k with ⟨k1, w, k2, k3, k4⟩ | ⟨k1, k2⟩
    · have := inv_unique h2 k2 h3 (inv_more k3)
      subst this
      exact ⟨_, h4, k4, .inr ⟨z, h2, rfl⟩⟩
    · exact absurd (by rw [gcd_more]; exact h1) k1
  · rcases k with ⟨k1, w, k2, k3, k4⟩ | ⟨k1, k2⟩
    · exact absurd (by rw [gcd_more] at k1; exact k1) h1
    · exact ⟨_, h2, k2, .inl rfl⟩
theorem Cmp_same {l : List Int} (h : L64 l) (hl : l.length < 17592186044416) : Ev (fun f => nat_Cmp.f f l l) 0 := by
  have g := Cmp_ev h h hl hl
  rw [cmp3_eq_zero.2 rfl] at g
  exact g
theorem Cmp_dg (n : Nat) (hl : (dg n).length < 17592186044416) : Ev (fun f => nat_Cmp.f f (dg n) (dg n)) 0 := Cmp_same (dg_L n) hl
theorem ModularAlike : latchkeylaw02_ModularAlike.Pure := by
  intro a b c m hm hs hw hm2 hs2 hw2 hm3 hs3 hw3 hm4 hs4 hw4
  have hA : L64 a := fun x hx => wf_u64 (hw x hx)
  have hB : L64 b := fun x hx => wf_u64 (hw2 x hx)
  have hC : L64 c := fun x hx => wf_u64 (hw3 x hx)
  have hM : L64 m := fun x hx => wf_u64 (hw4 x hx)
  have ha : a.length < 17592186044416 := by omega
  have hb : b.length < 17592186044416 := by omega
  have hc : c.length < 17592186044416 := by omega
  have hm' : m.length < 17592186044416 := by omega
  refine Ev.rounds ?_
  unfold latchkeylaw02_ModularAlike.f
  refine Ev.bind awake2_ev ?_
  refine Ev.congr (fun k => if_pos rfl) ?_
  refine Ev.bind (long2_ev 6 (by decide) (by simp) (by intro x hx; simp at hx; rcases hx with rfl | rfl | rfl | rfl <;> assumption)) ?_
  simp only [List.any_cons, List.any_nil, Bool.or_false, Bool.or_eq_true, decide_eq_true_eq]
  have hend : ∀ u, u = true → Ev (fun k => latchkeylaw02_ModularAlike.j0 k a b c m u) true := by
    rintro u rfl
    refine Ev.succ ?_
    simp only [latchkeylaw02_ModularAlike.j0]
    exact Ev.congr (fun k => if_pos trivial) (Ev.now _)
  by_cases hlong : 6 < a.length ∨ 6 < b.length ∨ 6 < c.length ∨ 6 < m.length
  · simp only [if_pos hlong]
    exact hend _ rfl
  · simp only [if_neg hlong]
    refine Ev.bind (Len_ev hM (by omega)) ?_
    by_cases h0 : vl m = 0
    · exact hend _ (by rw [h0, bl_zero]; rfl)
    · have hp : 0 < vl m := by omega
      have e : (((bl (vl m) : Nat) : Int) == 0) = false := beq_eq_false_iff_ne.2 fun e => h0 (bl_eq_zero.1 (by omega))
      rw [e]
      refine Ev.succ ?_
      simp only [latchkeylaw02_ModularAlike.j0]
      refine Ev.congr (fun k => if_neg Bool.false_ne_true) ?_
      have l1 := mul_len hC hM
      have l2 := add_len hA (dg_L (vl c * vl m))
      rw [vl_dg] at l2
      refine Ev.bind (Mul_ev hC hM (by omega) (by omega)) ?_
      have g1 := Add_ev hA (dg_L (vl c * vl m)) (by omega) (by omega)
      rw [vl_dg] at g1
      refine Ev.bind g1 ?_
      have hR := dg_L (vl a + vl c * vl m)
      have g2 := mMul_ev hA hB hM (by omega) (by omega) (by omega) hp
      have g3 := mMul_ev hR hB hM (by omega) (by omega) (by omega) hp
      rw [vl_dg, show (vl a + vl c * vl m) * vl b % vl m = vl a * vl b % vl m from by rw [Nat.add_mul, Nat.mul_right_comm, Nat.add_mul_mod_self_right]] at g3
      have g4 := mSub_ev hA hB hM (by omega) (by omega) (by omega) hp
      have g5 := mSub_ev hR hB hM (by omega) (by omega) (by omega) hp
      rw [vl_dg, msub_more] at g5
      refine Ev.bind g2 ?_
      refine Ev.bind g3 ?_
      refine Ev.bind g4 ?_
      refine Ev.bind g5 ?_
      have i1 := mInv_ev hA hM (by omega) (by omega) hp
      have i2 := mInv_ev hR hM (by omega) (by omega) hp
      rw [vl_dg] at i2
      obtain ⟨x, e1, e2, hx⟩ := inv_alike i1 i2
      refine Ev.bind e1 ?_
      refine Ev.bind e2 ?_
      refine Ev.congr (fun k => if_pos rfl) ?_
      refine Ev.congr (fun k => if_pos rfl) ?_
      refine Ev.congr (fun k => if_pos rfl) ?_
      refine Ev.congr (fun k => if_pos rfl) ?_
      refine Ev.congr (fun k => if_pos rfl) ?_
      have la := mod_fits hM hp (vl a * vl b)
      refine Ev.bind (Cmp_dg (vl a * vl b % vl m) (by omega)) ?_
      refine Ev.congr (fun k => if_pos rfl) ?_
      have lb : (dg (msub (vl a) (vl b) (vl m))).length ≤ m.length := mod_fits hM hp _
      refine Ev.bind (Cmp_dg (msub (vl a) (vl b) (vl m)) (by omega)) ?_
      refine Ev.congr (fun k => if_pos rfl) ?_
      have hxL : L64 x.1 ∧ x.1.length < 17592186044416 := by
        rcases hx with h | ⟨z, hz, h⟩
        · rw [h]
          exact ⟨fun x hx => (by cases hx), (by simp)⟩
        · rw [h]
          have := fits_of_le (Nat.le_of_lt hz) (vl_lt hM)
          exact ⟨dg_L _, by omega⟩
      refine Ev.bind (Cmp_same hxL.1 hxL.2) ?_
      refine Ev.congr (fun k => if_pos rfl) ?_
      have g6 := Cmp_ev (dg_L (vl a * vl b % vl m)) hM (by omega) (by omega)
      rw [vl_dg] at g6
      refine Ev.bind g6 ?_
      have hlt := Nat.mod_lt (vl a * vl b) hp
      rw [show cmp3 (vl a * vl b % vl m) (vl m) = -1 from by unfold cmp3; rw [if_pos hlt]]
      exact Ev.now _
end Go.Proofs.Ytanjbjenohdodaa.Pure
