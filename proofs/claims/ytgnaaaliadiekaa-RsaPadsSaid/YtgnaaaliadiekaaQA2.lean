/- More of what the first functions compute: a number's digits of 16 bits, its limbs again, sameness, lengths. -/
import Derived.Test.YtgnaaaliadiekaaBx0
import Derived.Test.YtgnaaaliadiekaaQA1
import Derived.Lib.BitFns
namespace Go.Proofs.Ytgnaaaliadiekaa.Q
open Go.RowKit Go.Proofs.Ytgnaaaliadiekaa.B Go.Proofs.YtgnaaaliadiekaaW.PrintWords Go.Proofs.YtgnaaaliadiekaaW.PrintLast Go.Proofs.YtgnaaaliadiekaaW.PrintMore
set_option linter.unusedVariables false

theorem tmod_nat (a b : Nat) : Int.tmod (a : Int) (b : Int) = ((a % b : Nat) : Int) := rfl
theorem tdiv_nat (a b : Nat) : Int.tdiv (a : Int) (b : Int) = ((a / b : Nat) : Int) := rfl
theorem val4 (v : Nat) (hv : v < 18446744073709551616) : val 65536 [((v % 65536 : Nat) : Int), ((v / 65536 % 65536 : Nat) : Int), ((v / 65536 / 65536 % 65536 : Nat) : Int), ((v / 65536 / 65536 / 65536 % 65536 : Nat) : Int)] = v := by
  simp only [val, Int.toNat_natCast]
  omega
theorem dig4 (v : Nat) : L16 [((v % 65536 : Nat) : Int), ((v / 65536 % 65536 : Nat) : Int), ((v / 65536 / 65536 % 65536 : Nat) : Int), ((v / 65536 / 65536 / 65536 % 65536 : Nat) : Int)] :=
  Dig.cons (by omega) (by omega) (Dig.cons (by omega) (by omega) (Dig.cons (by omega) (by omega) (Dig.cons (by omega) (by omega) (Dig.nil _))))
theorem pow_four (q : Nat) : 65536 ^ (4 * q) = 18446744073709551616 ^ q := by rw [Nat.pow_mul]
/-- What is great enough for its length has no 0 above. -/
theorem trim_of_le {B : Nat} (hB : 0 < B) {l : List Int} (h : Dig B l) (hl : B ^ (l.length - 1) ≤ val B l) : Trim l := by
  intro x hx h0
  subst h0
  obtain ⟨m, rfl⟩ := List.getLast?_eq_some_iff.1 hx
  have h1 := val_lt hB (Dig.left h)
  rw [val_append] at hl
  simp [val] at hl
  omega
end Go.Proofs.Ytgnaaaliadiekaa.Q
