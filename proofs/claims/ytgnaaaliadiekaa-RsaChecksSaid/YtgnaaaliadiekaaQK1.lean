/- What the law RsaChecks asks of a key. -/
import Derived.Test.YtgnaaaliadiekaaBx0
import Derived.Test.YtgnaaaliadiekaaBx13
import Derived.Test.YtgnaaaliadiekaaBx15
import Derived.Test.YtgnaaaliadiekaaBx24
import Derived.Test.YtgnaaaliadiekaaBx28
import Derived.Test.YtgnaaaliadiekaaBx29
import Derived.Test.YtgnaaaliadiekaaBx30
namespace Go.Proofs.Ytgnaaaliadiekaa.B
open Go.RowKit Go.Proofs.YtgnaaaliadiekaaW.PrintWords Go.Proofs.YtgnaaaliadiekaaW.PrintLast Go.Proofs.YtgnaaaliadiekaaW.PrintMore
/-- What is known of a key ahead of the law's walk. -/
def KeyOk (k : Nat) (l m : List Int) : Prop := ∃ (x y : List Int) (p q ch sz : Int) (b : Bool), latchkeyref01_Of.f k l = some x ∧ latchkeyref01_Len.f k x = some p ∧ latchkeyref01_Of.f k m = some y ∧ latchkeyref01_Len.f k y = some q ∧ (0 < p → 0 < q → latchkeyref09_Rsa.f k l m = some b) ∧ rsa_Check.f k l m = some ch ∧ ch = (if 0 < p ∧ 0 < q ∧ b = true then 0 else 41) ∧ rsa_Size.f k l m = some sz ∧ latchkeyref09_Size.f k l m = some sz
end Go.Proofs.Ytgnaaaliadiekaa.B
