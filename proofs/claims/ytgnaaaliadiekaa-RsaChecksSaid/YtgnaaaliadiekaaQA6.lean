/- Products of the document, and what the law of them takes together. -/
import Derived.Test.YtgnaaaliadiekaaBx0
import Derived.Test.YtgnaaaliadiekaaQA5
namespace Go.Proofs.Ytgnaaaliadiekaa.Q
open Go.RowKit Go.Proofs.Ytgnaaaliadiekaa.B Go.Proofs.YtgnaaaliadiekaaW.PrintWords Go.Proofs.YtgnaaaliadiekaaW.PrintLast Go.Proofs.YtgnaaaliadiekaaW.PrintMore
set_option linter.unusedVariables false
set_option linter.unusedSectionVars false

theorem rmul_idx (i j la lb lo d : Nat) (ha : la < 1099511627776) (hb : lb < 1099511627776) (hi : i < la) (hd : j + d = lb) (ho : lo = la + lb + 1) :
    wrap64 ((i : Int) + (j : Int)) = ((i + j : Nat) : Int) ∧ wrap64 ((j : Int) + 1) = ((j + 1 : Nat) : Int) ∧ (0 : Int) ≤ ((i + j : Nat) : Int) ∧ ((i + j : Nat) : Int) < (lo : Int) ∧ (0 : Int) ≤ (j : Int) := by
  refine ⟨w64 (by omega) (by omega), w64 (by omega) (by omega), ?_, ?_, ?_⟩ <;> omega
theorem prod16 {x y : Nat} (hx : x < 65536) (hy : y < 65536) : x * y ≤ 4294836225 := Nat.mul_le_mul (Nat.le_of_lt_succ hx) (Nat.le_of_lt_succ hy)
theorem rmul_num {x y o c : Nat} (hx : x < 65536) (hy : y < 65536) (ho : o < 65536) (hc : c < 65536) :
    wrap64 ((o + c : Nat) : Int) = ((o + c : Nat) : Int) ∧ wrap64 ((x * y : Nat) : Int) = ((x * y : Nat) : Int) ∧ wrap64 ((o + c + x * y : Nat) : Int) = ((o + c + x * y : Nat) : Int) ∧ (o + c + x * y) / 65536 < 65536 ∧ wrap64 (((o + c + x * y) / 65536 : Nat) : Int) = (((o + c + x * y) / 65536 : Nat) : Int) := by
  have hp := prod16 hx hy
  generalize x * y = p at *
  refine ⟨w64 (by omega) (by omega), w64 (by omega) (by omega), w64 (by omega) (by omega), by omega, w64 (by omega) (by omega)⟩
section
variable (a b : List Int) (hA : L16 a) (hB : L16 b) (ha : a.length < 1099511627776) (hb : b.length < 1099511627776)
include hA hB ha hb
end
end Go.Proofs.Ytgnaaaliadiekaa.Q
