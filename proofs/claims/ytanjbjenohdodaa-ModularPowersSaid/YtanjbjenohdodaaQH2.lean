/- What the laws of layer 2 share: how long rows are; what is told. -/
import Derived.Test.YtanjbjenohdodaaBx0
import Derived.Test.YtanjbjenohdodaaBx7
import Derived.Test.YtanjbjenohdodaaQH0
namespace Go.Proofs.Ytanjbjenohdodaa.B
open Go.RowKit Go.Proofs.YtanjbjenohdodaaW.PrintWords Go.Proofs.YtanjbjenohdodaaW.PrintLast Go.Proofs.YtanjbjenohdodaaW.PrintMore
set_option linter.unusedVariables false

theorem law02_long.calls (k : Nat) (a0 : Int) (A1 : Option Addr) (c1 : Nat) (l1 : List (List Int)) (r : Bool) (w : World) (n : Nat) (hn : l1.length = n) (hr1 : Kd.C (Kd.slice 44 (Kd.int .u64)) w A1 n l1) (hc1 : n ≤ c1) (h : latchkeylaw02_long.f k a0 l1 = some r) : Calls Try.prog 12 #[.int .i64 a0, .slice A1 n c1] w fun e w' => e = .returned (.bool r) ∧ Drawn0 w w' := by
  subst hn
  exact latchkeylaw02_long.calls k a0 A1 c1 l1 r w hr1 hc1 h
end Go.Proofs.Ytanjbjenohdodaa.B
