/- Sums and products in any order; a product with a sum is the sum of products: for every input. -/
import Derived.Test.YtbnbofflnpppfaaBx0
import Derived.Test.YtbnbofflnpppfaaBx19
import Derived.Test.YtbnbofflnpppfaaBx2
import Derived.Test.YtbnbofflnpppfaaBx27
import Derived.Test.YtbnbofflnpppfaaQA7
namespace Go.Proofs.Ytbnbofflnpppfaa.Pure
open Go.RowKit Go.Proofs.Ytbnbofflnpppfaa.B Go.Proofs.YtbnbofflnpppfaaW.PrintWords Go.Proofs.YtbnbofflnpppfaaW.PrintLast Go.Proofs.Ytbnbofflnpppfaa.Q
set_option linter.unusedVariables false

theorem cmp3_self (a : Nat) : cmp3 a a = 0 := by unfold cmp3; simp
theorem dg_small {n k : Nat} (h : n < 18446744073709551616 ^ k) : (dg n).length ≤ k := dg_len.2 h
theorem sum_small {x y k : Nat} (hx : x < 18446744073709551616 ^ k) (hy : y < 18446744073709551616 ^ k) : x + y < 18446744073709551616 ^ (k + 1) := by
  rw [Nat.pow_succ]
  omega
theorem mul_small {x y k l : Nat} (hx : x < 18446744073709551616 ^ k) (hy : y < 18446744073709551616 ^ l) : x * y < 18446744073709551616 ^ (k + l) := by
  rw [Nat.pow_add]
  exact Nat.mul_lt_mul'' hx hy
theorem up_to {x k l : Nat} (h : x < 18446744073709551616 ^ k) (hkl : k ≤ l) : x < 18446744073709551616 ^ l := Nat.lt_of_lt_of_le h (Nat.pow_le_pow_right (by decide) hkl)
theorem Add_dg {m n k : Nat} (hm : m < 18446744073709551616 ^ k) (hn : n < 18446744073709551616 ^ k) (hk : k < 1000) : Ev (fun f => nat_Add.f f (dg m) (dg n)) (dg (m + n)) := by
  have h1 := dg_small hm
  have h2 := dg_small hn
  have g := Add_ev (dg_L m) (dg_L n) (by omega) (by omega)
  rw [vl_dg, vl_dg] at g
  exact g
theorem Cmp_dg {m k : Nat} (hm : m < 18446744073709551616 ^ k) (hk : k < 1000) : Ev (fun f => nat_Cmp.f f (dg m) (dg m)) 0 := by
  have h1 := dg_small hm
  have g := Cmp_ev (dg_L m) (dg_L m) (by omega) (by omega)
  rw [cmp3_self] at g
  exact g
theorem NatRing : latchkeylaw01_NatRing.Pure := by
  intro a b c hm hs hw hm2 hs2 hw2 hm3 hs3 hw3
  have hA : L64 a := fun x hx => wf_u64 (hw x hx)
  have hB : L64 b := fun x hx => wf_u64 (hw2 x hx)
  have hC : L64 c := fun x hx => wf_u64 (hw3 x hx)
  have ha : a.length < 17592186044416 := by omega
  have hb : b.length < 17592186044416 := by omega
  have hc : c.length < 17592186044416 := by omega
  refine Ev.rounds ?_
  unfold latchkeylaw01_NatRing.f
  refine Ev.bind awake_ev ?_
  simp only [if_true]
  refine Ev.bind (long_ev (by simp) (by intro x hx; simp at hx; rcases hx with rfl | rfl | rfl <;> assumption)) ?_
  simp only [List.any_cons, List.any_nil, Bool.or_false, Bool.or_eq_true, decide_eq_true_eq]
  by_cases hlong : 70 < a.length ∨ 70 < b.length ∨ 70 < c.length
  · simp only [if_pos hlong]
    exact Ev.now _
  · simp only [if_neg hlong]
    have la : a.length < 1099511627776 := by omega
    have lb : b.length < 1099511627776 := by omega
    have lc : c.length < 1099511627776 := by omega
    have va : vl a < 18446744073709551616 ^ 70 := up_to (vl_lt hA) (by omega)
    have vb : vl b < 18446744073709551616 ^ 70 := up_to (vl_lt hB) (by omega)
    have vc : vl c < 18446744073709551616 ^ 70 := up_to (vl_lt hC) (by omega)
    generalize hva : vl a = A at *
    generalize hvb : vl b = B at *
    generalize hvc : vl c = C at *
    have mab := mul_small va vb
    have mac := mul_small va vc
    have mbc := mul_small vb vc
    have sbc := sum_small vb vc
    have sab := sum_small va vb
    have lbc := dg_small sbc
    have lab := dg_small sab
    have lmab := dg_small mab
    have lmbc := dg_small mbc
    have g1 := Add_ev hB hC lb lc
    rw [hvb, hvc] at g1
    refine Ev.bind g1 ?_
    have g2 := Mul_ev hA (dg_L (B + C)) la (by omega)
    rw [hva, vl_dg] at g2
    refine Ev.bind g2 ?_
    have gab := Mul_ev hA hB la lb
    rw [hva, hvb] at gab
    refine Ev.bind gab ?_
    have gac := Mul_ev hA hC la lc
    rw [hva, hvc] at gac
    refine Ev.bind gac ?_
    refine Ev.bind (Add_dg mab mac (by decide)) ?_
    have gsab := Add_ev hA hB la lb
    rw [hva, hvb] at gsab
    refine Ev.bind gsab ?_
    have gsub := Sub_ev (dg_L (A + B)) hB (by omega) lb (by rw [vl_dg, hvb]; exact Nat.le_add_left _ _)
    rw [vl_dg, hvb, Nat.add_sub_cancel] at gsub
    refine Ev.bind gsub ?_
    rw [← Nat.mul_add]
    refine Ev.bind (Cmp_dg (k := 141) (mul_small va sbc) (by decide)) ?_
    simp only [if_true]
    refine Ev.bind gab ?_
    have gba := Mul_ev hB hA lb la
    rw [hva, hvb, Nat.mul_comm] at gba
    refine Ev.bind gba ?_
    refine Ev.bind (Cmp_dg mab (by decide)) ?_
    simp only [if_true]
    refine Ev.bind gab ?_
    have g3 := Mul_ev (dg_L (A * B)) hC (by omega) lc
    rw [vl_dg, hvc] at g3
    refine Ev.bind g3 ?_
    have gbc := Mul_ev hB hC lb lc
    rw [hvb, hvc] at gbc
    refine Ev.bind gbc ?_
    have g4 := Mul_ev hA (dg_L (B * C)) la (by omega)
    rw [vl_dg, hva, ← Nat.mul_assoc] at g4
    refine Ev.bind g4 ?_
    refine Ev.bind (Cmp_dg (k := 210) (mul_small mab vc) (by decide)) ?_
    simp only [if_true]
    refine Ev.bind gsab ?_
    have gsba := Add_ev hB hA lb la
    rw [hva, hvb, Nat.add_comm] at gsba
    refine Ev.bind gsba ?_
    refine Ev.bind (Cmp_dg sab (by decide)) ?_
    simp only [if_true]
    have g5 := Cmp_ev (dg_L A) hA (by have := dg_small va; omega) ha
    rw [vl_dg, hva, cmp3_self] at g5
    refine Ev.bind g5 ?_
    exact Ev.now _
end Go.Proofs.Ytbnbofflnpppfaa.Pure
