/- The inverse below a modulus; the document's greatest divisor; which numbers are long; the fixed facts. -/
import Derived.Test.YtgnaaaliadiekaaBx0
import Derived.Test.YtgnaaaliadiekaaQM1
import Derived.Test.YtgnaaaliadiekaaQA11
import Derived.Test.YtgnaaaliadiekaaQA3
namespace Go.Proofs.Ytgnaaaliadiekaa.Q
open Go.RowKit Go.Proofs.Ytgnaaaliadiekaa.B Go.Proofs.YtgnaaaliadiekaaW.PrintWords Go.Proofs.YtgnaaaliadiekaaW.PrintLast Go.Proofs.YtgnaaaliadiekaaW.PrintMore
set_option linter.unusedVariables false
set_option linter.unusedSimpArgs false

theorem bl_eq_zero {n : Nat} : bl n = 0 ↔ n = 0 := by
  constructor
  · intro h
    have := bl_le_iff.1 (show bl n ≤ 0 by omega)
    omega
  · rintro rfl
    exact bl_zero
theorem fits_of_le {n N k : Nat} (h : n ≤ N) (hN : N < 18446744073709551616 ^ k) : (dg n).length ≤ k := dg_fits (Nat.lt_of_le_of_lt h hN)
theorem InvSt.y_le {M A r s x y : Nat} {odd : Bool} (h : InvSt M A r s x y odd) (hr : 0 < r) : y ≤ M ∧ x ≤ M := by
  obtain ⟨h1, h2, _⟩ := h
  have := Nat.le_mul_of_pos_left y hr
  omega
/-- what the inverse answers -/
def InvTo (M A : Nat) (g : Nat → Option (List Int × Int)) : Prop :=
  (Nat.gcd M A = 1 ∧ ∃ z, z < M ∧ z * A % M = 1 % M ∧ Ev g (dg z, 0)) ∨ (Nat.gcd M A ≠ 1 ∧ Ev g ([], 5))
theorem InvTo.step {M A : Nat} {g f : Nat → Option (List Int × Int)} (h : ∀ {r}, Ev f r → Ev g r) (k : InvTo M A f) : InvTo M A g := by
  rcases k with ⟨h1, z, h2, h3, h4⟩ | ⟨h1, h2⟩
  · exact .inl ⟨h1, z, h2, h3, h h4⟩
  · exact .inr ⟨h1, h h2⟩
theorem cmp3_eq_zero {a b : Nat} : cmp3 a b = 0 ↔ a = b := by
  unfold cmp3
  constructor
  · intro h
    split at h
    · omega
    · split at h <;> omega
  · rintro rfl
    simp
theorem mod_inv_mod {z M A : Nat} (h : z * A % M = 1 % M) : z % M * A % M = 1 % M := by rw [Nat.mod_mul_mod, h]
theorem vl_pos_len {m : List Int} (h0 : 0 < vl m) : 1 ≤ m.length := by
  cases m with
  | nil => exact absurd h0 (by decide)
  | cons x l => simp
/-- an inverse is one alone -/
theorem inv_unique {M A z w : Nat} (hz : z < M) (hw : w < M) (h1 : z * A % M = 1 % M) (h2 : w * A % M = 1 % M) : z = w := by
  have e1 : z * A * w % M = w % M := by rw [Nat.mul_mod, h1, ← Nat.mul_mod, Nat.one_mul]
  have e2 : w * A * z % M = z % M := by rw [Nat.mul_mod, h2, ← Nat.mul_mod, Nat.one_mul]
  have e3 : z * A * w = w * A * z := by rw [Nat.mul_assoc, Nat.mul_comm z, Nat.mul_comm A w]
  rw [e3, e2] at e1
  rw [Nat.mod_eq_of_lt hz, Nat.mod_eq_of_lt hw] at e1
  exact e1
theorem dd_nil {n : Nat} : (dd n).length = 0 ↔ n = 0 := by
  constructor
  · intro h
    exact (digs_eq_nil (by decide)).1 (List.eq_nil_of_length_eq_zero h)
  · rintro rfl
    show (digs 65536 0).length = 0
    rw [digs_zero]
    rfl
end Go.Proofs.Ytgnaaaliadiekaa.Q
