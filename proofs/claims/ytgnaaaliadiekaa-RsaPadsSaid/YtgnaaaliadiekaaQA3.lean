/- Sameness, how many bits, and the fixed facts. -/
import Derived.Test.YtgnaaaliadiekaaBx0
import Derived.Test.YtgnaaaliadiekaaQA2
namespace Go.Proofs.Ytgnaaaliadiekaa.Q
open Go.RowKit Go.Proofs.Ytgnaaaliadiekaa.B Go.Proofs.YtgnaaaliadiekaaW.PrintWords Go.Proofs.YtgnaaaliadiekaaW.PrintLast Go.Proofs.YtgnaaaliadiekaaW.PrintMore
set_option linter.unusedVariables false

/-- How many bits a number has. -/
def bl (n : Nat) : Nat := if h : n = 0 then 0 else 1 + bl (n / 2)
termination_by n
decreasing_by exact Nat.div_lt_self (by omega) (by omega)
theorem bl_zero : bl 0 = 0 := by rw [bl]; simp
theorem bl_pos {n : Nat} (h : n ≠ 0) : bl n = 1 + bl (n / 2) := by rw [bl, dif_neg h]
theorem bl_shift : ∀ (k n : Nat), 2 ^ k ≤ n → bl n = k + bl (n / 2 ^ k)
  | 0, n, _ => by simp
  | k + 1, n, h => by
    have hp : 0 < 2 ^ k := Nat.two_pow_pos k
    have h2 : 2 ^ k ≤ n / 2 := by rw [Nat.pow_succ] at h; omega
    rw [bl_pos (by rw [Nat.pow_succ] at h; omega), bl_shift k (n / 2) h2, Nat.div_div_eq_div_mul, Nat.pow_succ, Nat.mul_comm 2]
    omega
theorem bl_aux : ∀ (f n : Nat), n < 2 ^ f → Lib.bitLenAux f n = bl n
  | 0, n, h => by
    have : n = 0 := by simpa using h
    subst this
    rw [bl_zero]
    rfl
  | f + 1, n, h => by
    unfold Lib.bitLenAux
    by_cases h0 : n = 0
    · rw [if_pos h0, h0, bl_zero]
    · rw [if_neg h0, bl_pos h0, bl_aux f (n / 2) (by rw [Nat.pow_succ] at h; omega)]
theorem bl_lib {n : Nat} (h : n < 18446744073709551616) : Lib.bitLen n = bl n := bl_aux 64 n h
theorem bl_le : ∀ (k n : Nat), n < 2 ^ k → bl n ≤ k
  | 0, n, h => by
    have : n = 0 := by simpa using h
    subst this
    rw [bl_zero]
    exact Nat.le_refl _
  | k + 1, n, h => by
    by_cases h0 : n = 0
    · subst h0; rw [bl_zero]; omega
    · rw [bl_pos h0]
      have := bl_le k (n / 2) (by rw [Nat.pow_succ] at h; omega)
      omega
theorem lt_bl (n : Nat) : n < 2 ^ bl n := by
  induction n using Nat.strongRecOn with
  | _ n ih =>
    by_cases h0 : n = 0
    · subst h0; rw [bl_zero]; omega
    · rw [bl_pos h0, Nat.add_comm, Nat.pow_succ]
      have := ih (n / 2) (by omega)
      omega
theorem bl_le_iff {n k : Nat} : bl n ≤ k ↔ n < 2 ^ k := ⟨fun h => Nat.lt_of_lt_of_le (lt_bl n) (Nat.pow_le_pow_right (by omega) h), bl_le k n⟩
theorem bl_mono {m n : Nat} (h : m ≤ n) : bl m ≤ bl n := bl_le_iff.2 (Nat.lt_of_le_of_lt h (lt_bl n))
/-- of a number with a greatest digit -/
theorem bl_top (e p x i : Nat) (hp : p < 2 ^ (e * i)) (hx : 0 < x) : bl (p + 2 ^ (e * i) * x) = e * i + bl x := by
  have hP : 0 < 2 ^ (e * i) := Nat.two_pow_pos _
  have h1 : 2 ^ (e * i) ≤ p + 2 ^ (e * i) * x := by
    have : 2 ^ (e * i) * 1 ≤ 2 ^ (e * i) * x := Nat.mul_le_mul_left _ hx
    omega
  rw [bl_shift (e * i) _ h1, Nat.add_mul_div_left _ _ hP, Nat.div_eq_of_lt hp, Nat.zero_add]
theorem pow64 (i : Nat) : 18446744073709551616 ^ i = 2 ^ (64 * i) := by rw [Nat.pow_mul]
theorem pow16 (i : Nat) : 65536 ^ i = 2 ^ (16 * i) := by rw [Nat.pow_mul]
theorem dd_small {n k : Nat} (h : n < 18446744073709551616 ^ k) : (dd n).length ≤ 4 * k := dd_len.2 (by rw [pow_four]; exact h)
theorem vl_lt {l : List Int} (h : L64 l) : vl l < 18446744073709551616 ^ l.length := val_lt (by omega) h
theorem wf_u64 {x : Int} (h : (Lit.int .u64 x).wf = true) : 0 ≤ x ∧ x < 18446744073709551616 := by
  simp [Lit.wf, IntKind.min, IntKind.max, IntKind.signed, IntKind.bits] at h
  omega
end Go.Proofs.Ytgnaaaliadiekaa.Q
