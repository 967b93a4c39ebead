/- The document's division, digit by digit; its numbers multiplied and divided by powers of 2. -/
import Derived.Test.YtgnaaaliadiekaaBx0
import Derived.Test.YtgnaaaliadiekaaQA7
import Derived.Test.YtgnaaaliadiekaaQA9
namespace Go.Proofs.Ytgnaaaliadiekaa.Q
open Go.RowKit Go.Proofs.Ytgnaaaliadiekaa.B Go.Proofs.YtgnaaaliadiekaaW.PrintWords Go.Proofs.YtgnaaaliadiekaaW.PrintLast Go.Proofs.YtgnaaaliadiekaaW.PrintMore
set_option linter.unusedVariables false
set_option linter.unusedSectionVars false
set_option linter.unusedSimpArgs false

theorem Ev.succ {α : Type} {g : Nat → Option α} {r : α} (h : Ev (fun k => g (k + 1)) r) : Ev g r := Ev.step (fun _ => rfl) h
theorem lt_top {L P b : Nat} (h : L < P) : L + P * b < (b + 1) * P := by
  rw [Nat.add_mul, Nat.one_mul, Nat.mul_comm b]
  omega
theorem drop_alg {d r x R M V : Nat} (h : d * M + r = x + 65536 * R) : (d + 65536 * V) * M + r = x + 65536 * (V * M + R) := by
  rw [Nat.add_mul, Nat.mul_assoc]
  omega
theorem mx_one (t : Nat) : mx (t : Int) 1 = ((max t 1 : Nat) : Int) := by unfold mx; split <;> omega
/-- how often the divisor surely is in what is left -/
theorem times_ok {P R M x b1 t : Nat} (hx : x * P ≤ R) (hM : M < (b1 + 1) * P) (hR : M ≤ R) (ht : t = max (x / (b1 + 1)) 1) : t * M ≤ R := by
  rcases Nat.lt_or_ge 1 (x / (b1 + 1)) with h | h
  · have e : t = x / (b1 + 1) := by omega
    have h1 : t * (b1 + 1) ≤ x := by rw [e]; exact Nat.div_mul_le_self _ _
    have h2 : t * M ≤ t * ((b1 + 1) * P) := Nat.mul_le_mul_left _ (Nat.le_of_lt hM)
    have h3 : t * (b1 + 1) * P ≤ x * P := Nat.mul_le_mul_right _ h1
    rw [Nat.mul_assoc] at h3
    omega
  · have e : t = 1 := by omega
    rw [e, Nat.one_mul]
    exact hR
theorem top_one (l : List Int) (m : Nat) (h : l.length = m + 1) : val 65536 l = low 65536 l m + 65536 ^ m * (l.getD m 0).toNat := by
  have e := low_all 65536 l (Nat.le_of_eq h)
  simp only [low] at e
  exact e.symm
theorem top_two (l : List Int) (m : Nat) (h : l.length = m + 2) : val 65536 l = low 65536 l m + 65536 ^ m * ((l.getD m 0).toNat + 65536 * (l.getD (m + 1) 0).toNat) := by
  have e := low_all 65536 l (Nat.le_of_eq h)
  simp only [low] at e
  rw [← e, Nat.pow_succ]
  grind
theorem len_le_dd {m n : Nat} (h : m ≤ n) : (dd m).length ≤ (dd n).length := dd_len.2 (Nat.lt_of_le_of_lt h (dd_len.1 (Nat.le_refl _)))
theorem digit_sum {a t M R T : Nat} (h : a * M + R = T) (ht : t * M ≤ R) : (a + t) * M + (R - M * t) = T := by
  rw [Nat.add_mul, Nat.mul_comm M t]
  omega
theorem digit_small {a M R T : Nat} (h : a * M + R = T) (hT : T < 65536 * M) : a < 65536 := by
  rcases Nat.lt_or_ge a 65536 with h1 | h1
  · exact h1
  · have := Nat.mul_le_mul_right M h1
    omega
theorem times_num (x b1 : Nat) (hx : x < 4294967296) (hb : b1 < 65536) : wrap64 ((b1 : Int) + 1) = ((b1 + 1 : Nat) : Int) ∧ ¬ (((b1 + 1 : Nat) : Int) = 0) ∧ wrap64 (Int.tdiv (x : Int) ((b1 + 1 : Nat) : Int)) = ((x / (b1 + 1) : Nat) : Int) ∧ max (x / (b1 + 1)) 1 < 4294967297 := by
  have h := Nat.div_le_self x (b1 + 1)
  rw [show Int.tdiv (x : Int) ((b1 + 1 : Nat) : Int) = ((x / (b1 + 1) : Nat) : Int) from tdiv_nat _ _]
  generalize x / (b1 + 1) = d at *
  exact ⟨w64 (by omega) (by omega), by omega, w64 (by omega) (by omega), by omega⟩
theorem two_dig (u v : Nat) (hu : u < 65536) (hv : v < 65536) : wrap64 ((u : Int) + wrap64 (65536 * (v : Int))) = ((u + 65536 * v : Nat) : Int) ∧ u + 65536 * v < 4294967296 := by
  refine ⟨?_, by omega⟩
  rw [w64 (x := 65536 * (v : Int)) (by omega) (by omega), w64 (by omega) (by omega)]
  omega
section
variable (a : List Int) (hA : L16 a) (ha : a.length < 1073741824) (M : Nat) (hM0 : 0 < M) (hM : (dd M).length < 1073741824)
include hA ha hM0 hM
end
end Go.Proofs.Ytgnaaaliadiekaa.Q
