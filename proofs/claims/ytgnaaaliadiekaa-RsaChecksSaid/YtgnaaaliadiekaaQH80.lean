/- The law RsaChecks: pairs of rows. Written by hand/rsachecks.py. -/
import Derived.Test.YtgnaaaliadiekaaBx0
import Derived.Test.YtgnaaaliadiekaaQH5
import Derived.Test.YtgnaaaliadiekaaQH7
import Derived.Test.YtgnaaaliadiekaaQK1
namespace Go.Proofs.Ytgnaaaliadiekaa.B
open Go.RowKit Go.Proofs.YtgnaaaliadiekaaW.PrintWords Go.Proofs.YtgnaaaliadiekaaW.PrintLast Go.Proofs.YtgnaaaliadiekaaW.PrintMore
set_option linter.unusedVariables false
set_option linter.unusedSimpArgs false
theorem four {Q : Nat → Prop} (h0 : Q 0) (h1 : Q 1) (h2 : Q 2) (h3 : Q 3) : ∀ i, i < 4 → Q i
  | 0, _ => h0
  | 1, _ => h1
  | 2, _ => h2
  | 3, _ => h3
  | n + 4, h => absurd h (by omega)
/-- A pair of rows in two cells of a block. -/
def PairAt (k : Nat) (w : World) (p i : Nat) : Prop := ∃ (A : Option Addr) (c : Nat) (l : List Int) (B : Option Addr) (d : Nat) (m : List Int), w.cell? ⟨p, i * 2, none⟩ = some (.slice A l.length c) ∧ w.cell? ⟨p, i * 2 + 1, none⟩ = some (.slice B m.length d) ∧ Kd.C (Kd.int .u64) w A l.length l ∧ l.length ≤ c ∧ Kd.C (Kd.int .u64) w B m.length m ∧ m.length ≤ d ∧ KeyOk k l m
end Go.Proofs.Ytgnaaaliadiekaa.B
