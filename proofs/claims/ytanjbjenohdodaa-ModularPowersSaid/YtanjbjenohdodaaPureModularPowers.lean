/- Powers of a sum of exponents, of a product of exponents, of a product of numbers, below a modulus: for every input. -/
import Derived.Test.YtanjbjenohdodaaBx0
import Derived.Test.YtanjbjenohdodaaBx1
import Derived.Test.YtanjbjenohdodaaSlatchkeylaw02ModularPowers
import Derived.Test.YtanjbjenohdodaaQM4
namespace Go.Proofs.Ytanjbjenohdodaa.Pure
open Go.RowKit Go.Proofs.Ytanjbjenohdodaa.B Go.Proofs.YtanjbjenohdodaaW.PrintWords Go.Proofs.YtanjbjenohdodaaW.PrintLast Go.Proofs.Ytanjbjenohdodaa.Q
set_option linter.unusedVariables false

theorem pw_ev {a m : List Int} (n : Nat) (hA : L64 a) (hM : L64 m) (ha : a.length ≤ 4) (hm : m.length ≤ 4) (h0 : 0 < vl m) (hn : n < 18446744073709551616) : Ev (fun k => Pw_pow.f k a (n : Int) m) (dg (vl a ^ n % vl m)) := by
  unfold Pw_pow.f
  refine Ev.bind (Of_ev (by omega) (by omega)) ?_
  have d1 : (dg (n : Int).toNat).length ≤ 1 := dg_fits (k := 1) (by omega)
  have g := mPow_ev hA (dg_L (n : Int).toNat) hM (by omega) (by omega) (by omega) h0
  rw [vl_dg, Int.toNat_natCast] at g
  exact Ev.bind g (Ev.now _)
theorem pm_ev {a b m : List Int} (hA : L64 a) (hB : L64 b) (hM : L64 m) (ha : a.length ≤ 4) (hb : b.length ≤ 4) (hm : m.length ≤ 4) (h0 : 0 < vl m) : Ev (fun k => Pw_mul.f k a b m) (dg (vl a * vl b % vl m)) := by
  unfold Pw_mul.f
  exact Ev.bind (mMul_ev hA hB hM (by omega) (by omega) (by omega) h0) (Ev.now _)
theorem ModularPowers : latchkeylaw02_ModularPowers.Pure := by
  intro a b m j k hm hs hw hm2 hs2 hw2 hm3 hs3 hw3 hj hk
  have hA : L64 a := fun x hx => wf_u64 (hw x hx)
  have hB : L64 b := fun x hx => wf_u64 (hw2 x hx)
  have hM : L64 m := fun x hx => wf_u64 (hw3 x hx)
  have ha : a.length < 17592186044416 := by omega
  have hb : b.length < 17592186044416 := by omega
  have hm' : m.length < 17592186044416 := by omega
  obtain ⟨hj0, hj1⟩ := u16_wf hj
  obtain ⟨hk0, hk1⟩ := u16_wf hk
  obtain ⟨P, rfl⟩ := Int.eq_ofNat_of_zero_le hj0
  obtain ⟨Q, hQ⟩ := Int.eq_ofNat_of_zero_le (Int.emod_nonneg k (show (64 : Int) ≠ 0 by decide))
  have hQ1 : Q < 64 := by omega
  have hP1 : P < 65536 := by omega
  refine Ev.rounds ?_
  unfold latchkeylaw02_ModularPowers.f
  rw [hQ, show (P : Int) + (Q : Int) = ((P + Q : Nat) : Int) from by simp, show (P : Int) * (Q : Int) = ((P * Q : Nat) : Int) from by simp]
  refine Ev.bind awake2_ev ?_
  refine Ev.congr (fun k => if_pos rfl) ?_
  refine Ev.bind (long2_ev 4 (by decide) (by simp) (by intro x hx; simp at hx; rcases hx with rfl | rfl | rfl <;> assumption)) ?_
  simp only [List.any_cons, List.any_nil, Bool.or_false, Bool.or_eq_true, decide_eq_true_eq]
  by_cases hlong : 4 < a.length ∨ 4 < b.length ∨ 4 < m.length
  · simp only [if_pos hlong]
    exact Ev.now _
  · simp only [if_neg hlong]
    refine Ev.bind (Len_ev hM (by omega)) ?_
    by_cases h0 : vl m = 0
    · rw [h0, bl_zero]
      exact Ev.congr (fun k => if_pos rfl) (Ev.now _)
    · have hp : 0 < vl m := by omega
      refine Ev.congr (fun k => if_neg (fun e => h0 (bl_eq_zero.1 (by omega)))) ?_
      have hPQ : P * Q ≤ 65536 * 64 := Nat.mul_le_mul (by omega) (by omega)
      have fit : ∀ x, (dg (x % vl m)).length ≤ 4 := fun x => by have := mod_fits hM hp x; omega
      have cmp : ∀ x y, x % vl m = y % vl m → Ev (fun f => nat_Cmp.f f (dg (x % vl m)) (dg (y % vl m))) 0 := fun x y h => by
        rw [h]
        exact cmp_dg _ (Nat.lt_of_le_of_lt (fit y) (by decide))
      have dpw : ∀ x n : Nat, n < 18446744073709551616 → Ev (fun k => Pw_pow.f k (dg (x % vl m)) (n : Int) m) (dg (x ^ n % vl m)) := fun x n hn => by
        have g := pw_ev n (dg_L (x % vl m)) hM (fit x) (by omega) hp hn
        rw [vl_dg, ← Nat.pow_mod] at g
        exact g
      have dmul : ∀ x y, Ev (fun k => Pw_mul.f k (dg (x % vl m)) (dg (y % vl m)) m) (dg (x * y % vl m)) := fun x y => by
        have g := pm_ev (dg_L (x % vl m)) (dg_L (y % vl m)) hM (fit x) (fit y) (by omega) hp
        rw [vl_dg, vl_dg, ← Nat.mul_mod] at g
        exact g
      refine Ev.bind (pw_ev (P + Q) hA hM (by omega) (by omega) hp (by omega)) ?_
      refine Ev.bind (pw_ev P hA hM (by omega) (by omega) hp (by omega)) ?_
      refine Ev.bind (pw_ev Q hA hM (by omega) (by omega) hp (by omega)) ?_
      refine Ev.bind (dmul _ _) ?_
      refine Ev.bind (cmp (vl a ^ (P + Q)) (vl a ^ P * vl a ^ Q) (by rw [Nat.pow_add])) ?_
      refine Ev.congr (fun k => if_pos rfl) ?_
      refine Ev.bind (pw_ev (P * Q) hA hM (by omega) (by omega) hp (by omega)) ?_
      refine Ev.bind (dpw _ Q (by omega)) ?_
      refine Ev.bind (cmp (vl a ^ (P * Q)) ((vl a ^ P) ^ Q) (by rw [Nat.pow_mul])) ?_
      refine Ev.congr (fun k => if_pos rfl) ?_
      refine Ev.bind (pm_ev hA hB hM (by omega) (by omega) (by omega) hp) ?_
      refine Ev.bind (dpw _ P (by omega)) ?_
      refine Ev.bind (pw_ev P hB hM (by omega) (by omega) hp (by omega)) ?_
      refine Ev.bind (dmul _ _) ?_
      refine Ev.bind (cmp ((vl a * vl b) ^ P) (vl a ^ P * vl b ^ P) (by rw [Nat.mul_pow])) ?_
      exact Ev.congr (fun k => if_pos rfl) (Ev.now _)
end Go.Proofs.Ytanjbjenohdodaa.Pure
