/- Numbers stand in one order: for every input. -/
import Derived.Test.YtbnbofflnpppfaaBx0
import Derived.Test.YtbnbofflnpppfaaBx1
import Derived.Test.YtbnbofflnpppfaaBx19
import Derived.Test.YtbnbofflnpppfaaBx2
import Derived.Test.YtbnbofflnpppfaaBx21
import Derived.Test.YtbnbofflnpppfaaQA4
namespace Go.Proofs.Ytbnbofflnpppfaa.Pure
open Go.RowKit Go.Proofs.Ytbnbofflnpppfaa.B Go.Proofs.YtbnbofflnpppfaaW.PrintWords Go.Proofs.YtbnbofflnpppfaaW.PrintLast Go.Proofs.Ytbnbofflnpppfaa.Q
set_option linter.unusedVariables false

theorem cmp3_turn (a b : Nat) : cmp3 a b = wrap64 (-(cmp3 b a)) := by
  have h : -(cmp3 b a) = cmp3 a b := by unfold cmp3; split <;> split <;> omega
  rw [h, w64] <;> (unfold cmp3; split <;> (try split) <;> omega)
theorem cmp3_cases (a b : Nat) : (a < b ∧ cmp3 a b = -1) ∨ (a = b ∧ cmp3 a b = 0) ∨ (b < a ∧ cmp3 a b = 1) := by
  unfold cmp3
  split
  · exact .inl ⟨by assumption, rfl⟩
  · split
    · exact .inr (.inr ⟨by assumption, rfl⟩)
    · exact .inr (.inl ⟨by omega, rfl⟩)
theorem NatOrder : latchkeylaw01_NatOrder.Pure := by
  intro a b c hm hs hw hm2 hs2 hw2 hm3 hs3 hw3
  have hA : L64 a := fun x hx => wf_u64 (hw x hx)
  have hB : L64 b := fun x hx => wf_u64 (hw2 x hx)
  have hC : L64 c := fun x hx => wf_u64 (hw3 x hx)
  have ha : a.length < 17592186044416 := by omega
  have hb : b.length < 17592186044416 := by omega
  have hc : c.length < 17592186044416 := by omega
  refine Ev.rounds ?_
  unfold latchkeylaw01_NatOrder.f
  refine Ev.bind awake_ev ?_
  simp only [if_true]
  refine Ev.bind (long_ev (by simp) (by intro x hx; simp at hx; rcases hx with rfl | rfl | rfl <;> assumption)) ?_
  simp only [List.any_cons, List.any_nil, Bool.or_false, Bool.or_eq_true, decide_eq_true_eq]
  by_cases hlong : 70 < a.length ∨ 70 < b.length ∨ 70 < c.length
  · simp only [if_pos hlong]
    exact Ev.now _
  · simp only [if_neg hlong]
    refine Ev.bind (Cmp_ev hA hB ha hb) ?_
    refine Ev.bind (Cmp_ev hB hC hb hc) ?_
    refine Ev.bind (Cmp_ev hA hC ha hc) ?_
    have hsum : ∀ x y : List Int, L64 x → L64 y → x.length ≤ 70 → y.length ≤ 70 → (dg (vl x + vl y)).length ≤ 71 := by
      intro x y hx hy hxl hyl
      refine dg_len.2 ?_
      have h1 : vl x < 18446744073709551616 ^ 70 := Nat.lt_of_lt_of_le (vl_lt hx) (Nat.pow_le_pow_right (by omega) (by omega))
      have h2 : vl y < 18446744073709551616 ^ 70 := Nat.lt_of_lt_of_le (vl_lt hy) (Nat.pow_le_pow_right (by omega) (by omega))
      have h3 : 18446744073709551616 ^ 71 = 18446744073709551616 ^ 70 * 18446744073709551616 := Nat.pow_succ ..
      generalize 18446744073709551616 ^ 70 = P at *
      omega
    have hab := hsum a b hA hB (by omega) (by omega)
    have hac := hsum a c hA hC (by omega) (by omega)
    have hbc := hsum b c hB hC (by omega) (by omega)
    have last : Ev (fun k => latchkeylaw01_NatOrder.j1 k a b c (cmp3 (vl a) (vl b)) false) true := by
      refine Ev.step (f := fun k => (nat_Add.f k a c).bind fun t550 => ((nat_Add.f k b c).bind fun t553 => ((nat_Cmp.f k t550 t553).bind fun t556 => (some (t556 == cmp3 (vl a) (vl b)))))) (fun k => ?_) ?_
      · simp only [latchkeylaw01_NatOrder.j1]
        rw [if_neg (by simp)]
      · refine Ev.bind (Add_ev hA hC (by omega) (by omega)) ?_
        refine Ev.bind (Add_ev hB hC (by omega) (by omega)) ?_
        refine Ev.bind (Cmp_ev (dg_L _) (dg_L _) (by omega) (by omega)) ?_
        rw [vl_dg, vl_dg]
        refine Ev.same (Ev.now _) ?_
        have : cmp3 (vl a + vl c) (vl b + vl c) = cmp3 (vl a) (vl b) := by unfold cmp3; simp only [Nat.add_lt_add_iff_right]
        rw [this]
        simp
    have mid : Ev (fun k => (nat_Add.f k a b).bind fun t542 => ((nat_Cmp.f k t542 a).bind fun t545 => (latchkeylaw01_NatOrder.j1 k a b c (cmp3 (vl a) (vl b)) (decide (t545 < 0))))) true := by
      refine Ev.bind (Add_ev hA hB (by omega) (by omega)) ?_
      refine Ev.bind (Cmp_ev (dg_L _) hA (by omega) ha) ?_
      rw [vl_dg]
      have h0 : ¬ cmp3 (vl a + vl b) (vl a) < 0 := by unfold cmp3; rw [if_neg (by omega)]; split <;> omega
      rw [decide_eq_false h0]
      exact last
    have next : Ev (fun k => latchkeylaw01_NatOrder.j0 k a b c (cmp3 (vl a) (vl b)) false) true := by
      by_cases hle : cmp3 (vl a) (vl b) ≤ 0
      · refine Ev.step (f := fun k => (nat_Len.f k a).bind fun t540 => ((nat_Len.f k b).bind fun t541 => (if t540 > t541 then (latchkeylaw01_NatOrder.j1 k a b c (cmp3 (vl a) (vl b)) true) else ((nat_Add.f k a b).bind fun t542 => ((nat_Cmp.f k t542 a).bind fun t545 => (latchkeylaw01_NatOrder.j1 k a b c (cmp3 (vl a) (vl b)) (decide (t545 < 0)))))))) (fun k => ?_) ?_
        · simp only [latchkeylaw01_NatOrder.j0]
          rw [if_neg (by simp), if_pos hle]
        · refine Ev.bind (Len_ev hA (by omega)) ?_
          refine Ev.bind (Len_ev hB (by omega)) ?_
          have h1 : vl a ≤ vl b := by rcases cmp3_cases (vl a) (vl b) with h | h | h <;> omega
          have h2 := bl_mono h1
          exact Ev.congr (fun k => if_neg (by omega)) mid
      · refine Ev.step (f := fun k => (nat_Add.f k a b).bind fun t542 => ((nat_Cmp.f k t542 a).bind fun t545 => (latchkeylaw01_NatOrder.j1 k a b c (cmp3 (vl a) (vl b)) (decide (t545 < 0))))) (fun k => ?_) mid
        simp only [latchkeylaw01_NatOrder.j0]
        rw [if_neg (by simp), if_neg hle]
    have turn : Ev (fun k => (nat_Cmp.f k b a).bind fun t534 => (latchkeylaw01_NatOrder.j0 k a b c (cmp3 (vl a) (vl b)) ((cmp3 (vl a) (vl b)) != (wrap64 (-t534))))) true := by
      refine Ev.bind (Cmp_ev hB hA hb ha) ?_
      rw [← cmp3_turn]
      simp only [bne_self_eq_false]
      exact next
    have zero : cmp3 (vl a) (vl b) = 0 → cmp3 (vl a) (vl c) = cmp3 (vl b) (vl c) := by
      intro h
      rcases cmp3_cases (vl a) (vl b) with h1 | h1 | h1
      · omega
      · rw [h1.1]
      · omega
    have rest : Ev (fun k => if cmp3 (vl a) (vl b) = 0 then (if cmp3 (vl a) (vl c) = cmp3 (vl b) (vl c) then ((nat_Cmp.f k b a).bind fun t534 => (latchkeylaw01_NatOrder.j0 k a b c (cmp3 (vl a) (vl b)) ((cmp3 (vl a) (vl b)) != (wrap64 (-t534))))) else (latchkeylaw01_NatOrder.j0 k a b c (cmp3 (vl a) (vl b)) true)) else ((nat_Cmp.f k b a).bind fun t535 => (latchkeylaw01_NatOrder.j0 k a b c (cmp3 (vl a) (vl b)) ((cmp3 (vl a) (vl b)) != (wrap64 (-t535)))))) true := by
      by_cases h0 : cmp3 (vl a) (vl b) = 0
      · exact Ev.congr (fun k => (if_pos h0).trans (if_pos (zero h0))) turn
      · exact Ev.congr (fun k => if_neg h0) turn
    by_cases h1 : cmp3 (vl a) (vl b) ≤ 0
    · refine Ev.congr (fun k => if_pos h1) ?_
      by_cases h2 : cmp3 (vl b) (vl c) ≤ 0
      · refine Ev.congr (fun k => if_pos h2) ?_
        have h3 : ¬ cmp3 (vl a) (vl c) > 0 := by
          rcases cmp3_cases (vl a) (vl b) with h | h | h <;> rcases cmp3_cases (vl b) (vl c) with h' | h' | h' <;> rcases cmp3_cases (vl a) (vl c) with h'' | h'' | h'' <;> omega
        exact Ev.congr (fun k => if_neg h3) rest
      · exact Ev.congr (fun k => if_neg h2) rest
    · exact Ev.congr (fun k => if_neg h1) rest
end Go.Proofs.Ytbnbofflnpppfaa.Pure
