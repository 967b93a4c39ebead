/- The square of a sum; the product of a sum and a difference, below a modulus: for every input. -/
import Derived.Test.YtanjbjenohdodaaBx0
import Derived.Test.YtanjbjenohdodaaSlatchkeylaw02ModularSquares
import Derived.Test.YtanjbjenohdodaaQM4
namespace Go.Proofs.Ytanjbjenohdodaa.Pure
open Go.RowKit Go.Proofs.Ytanjbjenohdodaa.B Go.Proofs.YtanjbjenohdodaaW.PrintWords Go.Proofs.YtanjbjenohdodaaW.PrintLast Go.Proofs.Ytanjbjenohdodaa.Q
set_option linter.unusedVariables false

theorem msub_mod (x y M : Nat) (h0 : 0 < M) : (msub x y M + y) % M = x % M := by
  unfold msub
  have h := Nat.mod_lt y h0
  rw [Nat.mod_add_mod, ← Nat.add_mod_mod, show x % M + (M - y % M) + y % M = x % M + M from by omega, Nat.add_mod_right, Nat.mod_mod]
theorem msub_eq {x y z M : Nat} (h0 : 0 < M) (h : (z + y) % M = x % M) : msub x y M = z % M := by
  have hy := Nat.mod_lt y h0
  unfold msub
  rw [← h, Nat.mod_add_mod, ← Nat.add_mod_mod, show (M - y % M) = M - y % M from rfl]
  rw [show (z + y + (M - y % M) % M) % M = (z + y % M + (M - y % M)) % M from by rw [Nat.add_mod_mod, Nat.add_right_comm, ← Nat.add_mod_mod (z + (M - y % M)) y M, Nat.add_right_comm]]
  rw [show z + y % M + (M - y % M) = z + M from by omega, Nat.add_mod_right]
theorem sq_ev1 (n A B M : Nat) (l : List Int) (hl : L64 l) (hM : vl l = M) (h0 : 0 < M) (hn : l.length < 1000) {a b : List Int} (hA : L64 a) (hB : L64 b) (ha : vl a = A) (hb : vl b = B) (la : a.length < 1000) (lb : b.length < 1000) :
    Ev (fun k => Sq_mul.f k a b l) (dg (A * B % M)) ∧ Ev (fun k => Sq_add.f k a b l) (dg ((A + B) % M)) ∧ Ev (fun k => Sq_sub.f k a b l) (dg (msub A B M)) := by
  subst ha hb hM
  refine ⟨?_, ?_, ?_⟩
  · unfold Sq_mul.f
    exact Ev.bind (mMul_ev hA hB hl (by omega) (by omega) (by omega) h0) (Ev.now _)
  · unfold Sq_add.f
    exact Ev.bind (mAdd_ev hA hB hl (by omega) (by omega) (by omega) h0) (Ev.now _)
  · unfold Sq_sub.f
    exact Ev.bind (mSub_ev hA hB hl (by omega) (by omega) (by omega) h0) (Ev.now _)
theorem sq_dg (M : Nat) (l : List Int) (hl : L64 l) (hM : vl l = M) (h0 : 0 < M) (hn : l.length ≤ 10) (A B : Nat) (hA : (dg A).length ≤ 10) (hB : (dg B).length ≤ 10) :
    Ev (fun k => Sq_mul.f k (dg A) (dg B) l) (dg (A * B % M)) ∧ Ev (fun k => Sq_add.f k (dg A) (dg B) l) (dg ((A + B) % M)) ∧ Ev (fun k => Sq_sub.f k (dg A) (dg B) l) (dg (msub A B M)) := sq_ev1 0 A B M l hl hM h0 (by omega) (dg_L A) (dg_L B) (vl_dg A) (vl_dg B) (by omega) (by omega)
theorem mul_mod2 (x y M : Nat) : x % M * (y % M) % M = x * y % M := (Nat.mul_mod x y M).symm
theorem sq_one (A B M : Nat) : (((A + B) % M) ^ 2) % M = ((A * A % M + (A * B % M + A * B % M) % M) % M + B * B % M) % M := by
  rw [← Nat.pow_mod]
  simp only [Nat.mod_add_mod, Nat.add_mod_mod]
  congr 1
  grind
theorem sq_two (A B M : Nat) (h0 : 0 < M) : (A + B) % M * msub A B M % M = msub (A * A % M) (B * B % M) M := by
  have hd := msub_mod A B M h0
  generalize msub A B M = d at *
  have e : msub (A * A % M) (B * B % M) M = ((A + B) * d) % M := by
    refine msub_eq h0 ?_
    rw [Nat.add_mod_mod, Nat.mod_mod]
    have e1 : (A * (d + B) + B * (d + B)) % M = (A * A + B * A) % M := by
      rw [Nat.add_mod, Nat.mul_mod, hd, ← Nat.mul_mod, Nat.mul_mod B, hd, ← Nat.mul_mod, ← Nat.add_mod]
    have e2 : ((A + B) * d + B * B + A * B) % M = (A * A + A * B) % M := by
      rw [show (A + B) * d + B * B + A * B = A * (d + B) + B * (d + B) from by grind, e1, Nat.mul_comm B A]
    have e3 : ((A + B) * d + B * B) % M = (A * A) % M := by
      have e4 := congrArg (fun z => (z + (M - (A * B) % M)) % M) e2
      simp only [Nat.mod_add_mod] at e4
      have hlt := Nat.mod_lt (A * B) h0
      have e5 : ∀ u, (u + A * B + (M - A * B % M)) % M = u % M := by
        intro u
        rw [Nat.add_right_comm, ← Nat.add_mod_mod, Nat.add_assoc, show M - A * B % M + A * B % M = M from by omega, Nat.add_mod_right]
      rw [e5, e5] at e4
      exact e4
    exact e3
  rw [e, Nat.mod_mul_mod]
theorem ModularSquares : latchkeylaw02_ModularSquares.Pure := by
  intro a b m hm hs hw hm2 hs2 hw2 hm3 hs3 hw3
  have hA : L64 a := fun x hx => wf_u64 (hw x hx)
  have hB : L64 b := fun x hx => wf_u64 (hw2 x hx)
  have hM : L64 m := fun x hx => wf_u64 (hw3 x hx)
  have ha : a.length < 17592186044416 := by omega
  have hb : b.length < 17592186044416 := by omega
  have hm' : m.length < 17592186044416 := by omega
  refine Ev.rounds ?_
  unfold latchkeylaw02_ModularSquares.f
  refine Ev.bind awake2_ev ?_
  refine Ev.congr (fun k => if_pos rfl) ?_
  refine Ev.bind (long2_ev 10 (by decide) (by simp) (by intro x hx; simp at hx; rcases hx with rfl | rfl | rfl <;> assumption)) ?_
  simp only [List.any_cons, List.any_nil, Bool.or_false, Bool.or_eq_true, decide_eq_true_eq]
  by_cases hlong : 10 < a.length ∨ 10 < b.length ∨ 10 < m.length
  · simp only [if_pos hlong]
    exact Ev.now _
  · simp only [if_neg hlong]
    refine Ev.bind (Len_ev hM (by omega)) ?_
    by_cases h0 : vl m = 0
    · rw [h0, bl_zero]
      exact Ev.congr (fun k => if_pos rfl) (Ev.now _)
    · have hp : 0 < vl m := by omega
      refine Ev.congr (fun k => if_neg (fun e => h0 (bl_eq_zero.1 (by omega)))) ?_
      obtain ⟨mab, aab, sab⟩ := sq_ev1 0 (vl a) (vl b) (vl m) m hM rfl hp (by omega) hA hB rfl rfl (by omega) (by omega)
      obtain ⟨maa, -, -⟩ := sq_ev1 0 (vl a) (vl a) (vl m) m hM rfl hp (by omega) hA hA rfl rfl (by omega) (by omega)
      obtain ⟨mbb, -, -⟩ := sq_ev1 0 (vl b) (vl b) (vl m) m hM rfl hp (by omega) hB hB rfl rfl (by omega) (by omega)
      have fit : ∀ x, (dg (x % vl m)).length ≤ 10 := fun x => by have := mod_fits hM hp x; omega
      have fits : ∀ x y, (dg (msub x y (vl m))).length ≤ 10 := fun x y => fit _
      have two : ∀ A B, (dg A).length ≤ 10 → (dg B).length ≤ 10 → _ := fun A B => sq_dg (vl m) m hM rfl hp (by omega) A B
      generalize hA' : vl a = A at *
      generalize hB' : vl b = B at *
      generalize hM' : vl m = M at *
      refine Ev.bind aab ?_
      refine Ev.bind sab ?_
      refine Ev.bind mab ?_
      refine Ev.bind (two (A * B % M) (A * B % M) (fit _) (fit _)).2.1 ?_
      refine Ev.bind (Of_ev (by decide) (by decide)) ?_
      have d2 : (dg (2 : Int).toNat).length ≤ 1 := dg_fits (k := 1) (by decide)
      have f1 := fit (A + B)
      have g1 := mPow_ev (dg_L ((A + B) % M)) (dg_L (2 : Int).toNat) hM (by omega) (by omega) (by omega) (by omega)
      rw [vl_dg, vl_dg, hM', show (2 : Int).toNat = 2 from rfl, sq_one] at g1
      refine Ev.bind g1 ?_
      refine Ev.congr (fun k => if_pos rfl) ?_
      have g2 := (two ((A + B) % M) ((A + B) % M) (fit _) (fit _)).1
      rw [← Nat.pow_two, sq_one] at g2
      refine Ev.bind g2 ?_
      have f2 := fit ((A * A % M + (A * B % M + A * B % M) % M) % M + B * B % M)
      refine Ev.bind (cmp_dg _ (Nat.lt_of_le_of_lt f2 (by decide))) ?_
      refine Ev.congr (fun k => if_pos rfl) ?_
      refine Ev.bind maa ?_
      refine Ev.bind (two (A * A % M) ((A * B % M + A * B % M) % M) (fit _) (fit _)).2.1 ?_
      refine Ev.bind mbb ?_
      refine Ev.bind (two ((A * A % M + (A * B % M + A * B % M) % M) % M) (B * B % M) (fit _) (fit _)).2.1 ?_
      refine Ev.bind (cmp_dg _ (Nat.lt_of_le_of_lt f2 (by decide))) ?_
      refine Ev.congr (fun k => if_pos rfl) ?_
      have g3 := (two ((A + B) % M) (msub A B M) (fit _) (fits _ _)).1
      rw [sq_two A B M (by omega)] at g3
      refine Ev.bind g3 ?_
      refine Ev.bind (two (A * A % M) (B * B % M) (fit _) (fit _)).2.2 ?_
      refine Ev.bind (cmp_dg _ (Nat.lt_of_le_of_lt (fits _ _) (by decide))) ?_
      exact Ev.congr (fun k => if_pos rfl) (Ev.now _)
end Go.Proofs.Ytanjbjenohdodaa.Pure
