/- A number's bits, from the greatest one on; broken off, and gone over again: for every input. -/
import Derived.Test.YtgnaaaliadiekaaBx0
import Derived.Test.YtgnaaaliadiekaaBx6
import Derived.Test.YtgnaaaliadiekaaSlatchkeylaw01NatBits
import Derived.Test.YtgnaaaliadiekaaQM3
namespace Go.Proofs.Ytgnaaaliadiekaa.Pure
open Go.RowKit Go.Proofs.Ytgnaaaliadiekaa.B Go.Proofs.YtgnaaaliadiekaaW.PrintWords Go.Proofs.YtgnaaaliadiekaaW.PrintLast Go.Proofs.Ytgnaaaliadiekaa.Q
set_option linter.unusedVariables false

theorem bit_same {zs : List Int} (hZ : L64 zs) (hz : (dd (vl zs)).length < 1073741824) (i : Nat) (hi : i < 1152921504606846976) : latchkeyref01_Bit.f (dd (vl zs)) (i : Int) = some (if bitOf zs i = true then 1 else 0) := by
  rw [rBit_eq (vl zs) i hz hi, bitOf_nat hZ]
  rcases Nat.mod_two_eq_zero_or_one (vl zs / 2 ^ i) with h | h
  · rw [h]
    rfl
  · rw [h]
    rfl
theorem NatBits : latchkeylaw01_NatBits.Pure := by
  intro a stop hm hs hw hst
  have hA : L64 a := fun x hx => wf_u64 (hw x hx)
  have ha : a.length < 17592186044416 := by omega
  refine Ev.rounds ?_
  unfold latchkeylaw01_NatBits.f
  refine Ev.bind awake_ev ?_
  refine Ev.congr (fun k => if_pos rfl) ?_
  refine Ev.bind (long_ev (by simp) (by intro x hx; simp at hx; subst hx; assumption)) ?_
  simp only [List.any_cons, List.any_nil, Bool.or_false, decide_eq_true_eq]
  by_cases hlong : 70 < a.length
  · simp only [if_pos hlong]
    exact Ev.now _
  · simp only [if_neg hlong]
    have hd : (dd (vl a)).length ≤ 4 * a.length := dd_small (vl_lt hA)
    refine Ev.bind (rOf_ev hA (by omega)) ?_
    refine Ev.bind (rLen_ev (by omega)) ?_
    obtain ⟨K, hK⟩ := Len_ev hA (show a.length < 1099511627776 by omega)
    have hbl : bl (vl a) ≤ 64 * a.length := bl_le_iff.2 (by rw [← pow64]; exact vl_lt hA)
    refine ⟨K, fun k hk => ?_⟩
    refine if_pos ?_
    unfold NBok
    simp only [Bool.and_eq_true, decide_eq_true_eq, List.all_eq_true, List.mem_range, beq_iff_eq, Int.toNat_natCast]
    exact ⟨⟨⟨⟨by omega, by omega⟩, by omega⟩, hK k hk⟩, fun i hi => bit_same hA (by omega) i (by omega)⟩
end Go.Proofs.Ytgnaaaliadiekaa.Pure
