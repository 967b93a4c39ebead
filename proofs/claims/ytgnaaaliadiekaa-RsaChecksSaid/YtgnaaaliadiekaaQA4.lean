/- Sums, differences, products: the program's and the reference's. -/
import Derived.Test.YtgnaaaliadiekaaBx0
import Derived.Test.YtgnaaaliadiekaaSIntr
import Derived.Test.YtgnaaaliadiekaaQA3
namespace Go.Proofs.Ytgnaaaliadiekaa.Q
open Go.RowKit Go.Proofs.Ytgnaaaliadiekaa.B Go.Proofs.YtgnaaaliadiekaaW.PrintWords Go.Proofs.YtgnaaaliadiekaaW.PrintLast Go.Proofs.YtgnaaaliadiekaaW.PrintMore
set_option linter.unusedVariables false

theorem adds_nat (x y c : Nat) : add64s (x : Int) (y : Int) (c : Int) = (((x + y + c) % 18446744073709551616 : Nat) : Int) := by simp [add64s]
theorem addc_nat (x y c : Nat) : add64c (x : Int) (y : Int) (c : Int) = (((x + y + c) / 18446744073709551616 : Nat) : Int) := by simp [add64c]
theorem getD_nat {B : Nat} (hB : 0 < B) {l : List Int} (h : Dig B l) (i : Nat) : ∃ x : Nat, l.getD i 0 = (x : Int) ∧ x < B := by
  have g := Dig.getD hB h i
  obtain ⟨x, hx⟩ := Int.eq_ofNat_of_zero_le g.1
  exact ⟨x, hx, by have := g.2; rw [hx] at this; exact Int.ofNat_lt.1 this⟩
theorem low_set_ge {B : Nat} (l : List Int) (n : Nat) (x : Int) : ∀ i, i ≤ n → low B (l.set n x) i = low B l i
  | 0, _ => rfl
  | i + 1, h => by
    simp only [low]
    rw [low_set_ge l n x i (by omega), List.getD_eq_getElem?_getD, List.getD_eq_getElem?_getD, List.getElem?_set_ne (by omega)]
theorem getD_set_self (l : List Int) (n : Nat) (x : Int) (h : n < l.length) : (l.set n x).getD n 0 = x := by
  rw [List.getD_eq_getElem?_getD, List.getElem?_set_self h]
  rfl
theorem low_set_at {B : Nat} (l : List Int) (n : Nat) (x : Int) (h : n < l.length) : low B (l.set n x) (n + 1) = low B l n + B ^ n * x.toNat := by
  simp only [low]
  rw [low_set_ge l n x n (Nat.le_refl _), getD_set_self l n x h]
/-- The last list, as it stands when a sum of the reference ends. -/
theorem trim_low {B : Nat} (hB : 0 < B) {l : List Int} (h : Dig B l) (ht : Trim l) (hl : l ≠ []) : B ^ (l.length - 1) ≤ val B l := by
  have hp : 0 < l.length := List.length_pos_iff.2 hl
  have e := val_take_succ B l (l.length - 1) (by omega)
  rw [Nat.sub_add_cancel hp, List.take_length] at e
  have g := Dig.getD hB h (l.length - 1)
  have hne : l.getD (l.length - 1) 0 ≠ 0 := ht _ (by rw [List.getLast?_eq_getElem?, List.getD_eq_getElem?_getD, List.getElem?_eq_getElem (by omega)]; rfl)
  have h2 : B ^ (l.length - 1) * 1 ≤ B ^ (l.length - 1) * (l.getD (l.length - 1) 0).toNat := Nat.mul_le_mul_left _ (by omega)
  omega
theorem getD_zero {l : List Int} {i : Nat} (h : l.length ≤ i) : l.getD i 0 = 0 := by
  rw [List.getD_eq_getElem?_getD, List.getElem?_eq_none h]
  rfl
end Go.Proofs.Ytgnaaaliadiekaa.Q
