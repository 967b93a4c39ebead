/- Names for what these texts often say: masks, and tactics as default arguments (pack.py). -/
import Derived.ArgAppend
import Derived.Below
import Derived.BigQuiet
import Derived.Deep.AppendLies
import Derived.Deep.CutBlock
import Derived.Deep.DeepCutAuto
import Derived.Deep.Draws
import Derived.Deep.LoopGhost
import Derived.Deep.OwnRows
import Derived.Deep.QuietTactic
import Derived.Deep.RegionHeld3
import Derived.KernelRfl
import Derived.Laws.BitsLemmas
import Derived.Laws.BytesArg
import Derived.Laws.IdiomCopy
import Derived.Laws.MakeOwn
import Derived.Laws.OwnMore
import Derived.Laws.Rows
import Derived.Laws.Slices
import Derived.Laws.StructEq
import Derived.Lib.AppendStr
import Derived.Lib.ConvBytes
import Derived.Maps.AppendAt
import Derived.OrdersHeld
import Derived.OwnWalk
import Derived.RowKit
import Derived.RowKit3
import Derived.Tactics
import Derived.Test.YtgnaaaliadiekaaProg
import Derived.WalkKit
import Derived.WideLaws
set_option linter.unusedVariables false
def Go.Proofs.Q0_ : Array Bool := #[false, false, false, false, false, false, false, false]
def Go.Proofs.Q1_ : Array Bool := #[true, false, false, false, false, false, false, false]
def Go.Proofs.Q2_ : Array Bool := #[true, false, false, true, false, false, false, false]
def Go.Proofs.Q3_ : Array Bool := #[true, true, false, true, false, false, false, false]
def Go.Proofs.Q4_ : Array Bool := #[true, true, false, true, true, false, false, false]
def Go.Proofs.Q5_ : Array Bool := #[true, true, true, true, true, false, false, false]
def Go.Proofs.Q6_ : Array Bool := #[true, true, true, true, true, true, false, false]
def Go.Proofs.Q7_ : Array Bool := #[true, true, true, true, true, true, true, false]
def Go.Proofs.Q8_ : Array Bool := #[true, true, true, true, true, true, true, true]
def Go.Proofs.Q9_ : Array Bool := #[false, false, false, false, false, false, false, false, false, false, false, false, false, false, false, false, false, false, false, false, false, false, false, false, false, false, false, false, false, false, false, false, false, false, false, false, false]
def Go.Proofs.Q10_ : Array Bool := #[true, false, false, false, false, false, false, false, false, false, false, false, false, false, false, false, false, false, false, false, false, false, false, false, false, false, false, false, false, false, false, false, false, false, false, false, false]
def Go.Proofs.Q11_ : Array Bool := #[true, true, false, false, false, false, false, false, false, false, false, false, false, false, false, false, false, false, false, false, false, false, false, false, false, false, false, false, false, false, false, false, false, false, false, false, false]
def Go.Proofs.Q12_ : Array Bool := #[true, true, true, false, false, false, false, false, false, false, false, false, false, false, false, false, false, false, false, false, false, false, false, false, false, false, false, false, false, false, false, false, false, false, false, false, false]
def Go.Proofs.Q13_ : Array Bool := #[true, true, true, true, false, false, false, false, false, false, false, false, false, false, false, false, false, false, false, false, false, false, false, false, false, false, false, false, false, false, false, false, false, false, false, false, false]
def Go.Proofs.Q14_ : Array Bool := #[true, true, true, true, true, false, false, false, false, false, false, false, false, false, false, false, false, false, false, false, false, false, false, false, false, false, false, false, false, false, false, false, false, false, false, false, false]
def Go.Proofs.Q15_ : Array Bool := #[true, true, true, true, true, true, false, false, false, false, false, false, false, false, false, false, false, false, false, false, false, false, false, false, false, false, false, false, false, false, false, false, false, false, false, false, false]
def Go.Proofs.Q16_ : Array Bool := #[true, true, true, true, true, true, true, false, false, false, false, false, false, false, false, false, false, false, false, false, false, false, false, false, false, false, false, false, false, false, false, false, false, false, false, false, false]
def Go.Proofs.Q17_ : Array Bool := #[true, true, true, true, true, true, true, true, false, false, false, false, false, false, false, false, false, false, false, false, false, false, false, false, false, false, false, false, false, false, false, false, false, false, false, false, false]
def Go.Proofs.Q18_ : Array Bool := #[true, true, true, true, true, true, true, true, true, false, false, false, false, false, false, false, false, false, false, false, false, false, false, false, false, false, false, false, false, false, false, false, false, false, false, false, false]
def Go.Proofs.Q19_ : Array Bool := #[true, true, true, true, true, true, true, true, true, true, false, false, false, false, false, false, false, false, false, false, false, false, false, false, false, false, false, false, false, false, false, false, false, false, false, false, false]
def Go.Proofs.Q20_ : Array Bool := #[true, true, true, true, true, true, true, true, true, true, true, false, false, false, false, false, false, false, false, false, false, false, false, false, false, false, false, false, false, false, false, false, false, false, false, false, false]
def Go.Proofs.Q21_ : Array Bool := #[true, true, true, true, true, true, true, true, true, true, true, true, false, false, false, false, false, false, false, false, false, false, false, false, false, false, false, false, false, false, false, false, false, false, false, false, false]
def Go.Proofs.Q22_ : Array Bool := #[true, true, true, true, true, true, true, true, true, true, true, true, true, false, false, false, false, false, false, false, false, false, false, false, false, false, false, false, false, false, false, false, false, false, false, false, false]
def Go.Proofs.Q23_ : Array Bool := #[true, true, true, true, true, true, true, true, true, true, true, true, true, true, false, false, false, false, false, false, false, false, false, false, false, false, false, false, false, false, false, false, false, false, false, false, false]
def Go.Proofs.Q24_ : Array Bool := #[true, true, true, true, true, true, true, true, true, true, true, true, true, true, true, false, false, false, false, false, false, false, false, false, false, false, false, false, false, false, false, false, false, false, false, false, false]
def Go.Proofs.Q25_ : Array Bool := #[true, true, true, true, true, true, true, true, true, true, true, true, true, true, true, true, false, false, false, false, false, false, false, false, false, false, false, false, false, false, false, false, false, false, false, false, false]
def Go.Proofs.Q26_ : Array Bool := #[true, true, true, true, true, true, true, true, true, true, true, true, true, true, true, true, true, false, false, false, false, false, false, false, false, false, false, false, false, false, false, false, false, false, false, false, false]
def Go.Proofs.Q27_ : Array Bool := #[true, true, true, true, true, true, true, true, true, true, true, true, true, true, true, true, true, true, false, false, false, false, false, false, false, false, false, false, false, false, false, false, false, false, false, false, false]
def Go.Proofs.Q28_ : Array Bool := #[true, true, true, true, true, true, true, true, true, true, true, true, true, true, true, true, true, true, true, false, false, false, false, false, false, false, false, false, false, false, false, false, false, false, false, false, false]
def Go.Proofs.Q29_ : Array Bool := #[true, true, true, true, true, true, true, true, true, true, true, true, true, true, true, true, true, true, true, true, false, false, false, false, false, false, false, false, false, false, false, false, false, false, false, false, false]
def Go.Proofs.Q30_ : Array Bool := #[true, true, true, true, true, true, true, true, true, true, true, true, true, true, true, true, true, true, true, true, true, false, false, false, false, false, false, false, false, false, false, false, false, false, false, false, false]
def Go.Proofs.Q31_ : Array Bool := #[true, true, true, true, true, true, true, true, true, true, true, true, true, true, true, true, true, true, true, true, true, true, false, false, false, false, false, false, false, false, false, false, false, false, false, false, false]
def Go.Proofs.Q32_ : Array Bool := #[true, true, true, true, true, true, true, true, true, true, true, true, true, true, true, true, true, true, true, true, true, true, true, false, false, false, false, false, false, false, false, false, false, false, false, false, false]
def Go.Proofs.Q33_ : Array Bool := #[true, true, true, true, true, true, true, true, true, true, true, true, true, true, true, true, true, true, true, true, true, true, true, true, false, false, false, false, false, false, false, false, false, false, false, false, false]
def Go.Proofs.Q34_ : Array Bool := #[true, true, true, true, true, true, true, true, true, true, true, true, true, true, true, true, true, true, true, true, true, true, true, true, true, false, false, false, false, false, false, false, false, false, false, false, false]
def Go.Proofs.Q35_ : Array Bool := #[true, true, true, true, true, true, true, true, true, true, true, true, true, true, true, true, true, true, true, true, true, true, true, true, true, true, false, false, false, false, false, false, false, false, false, false, false]
def Go.Proofs.Q36_ : Array Bool := #[true, true, true, true, true, true, true, true, true, true, true, true, true, true, true, true, true, true, true, true, true, true, true, true, true, true, true, false, false, false, false, false, false, false, false, false, false]
def Go.Proofs.Q37_ : Array Bool := #[true, true, true, true, true, true, true, true, true, true, true, true, true, true, true, true, true, true, true, true, true, true, true, true, true, true, true, true, false, false, false, false, false, false, false, false, false]
def Go.Proofs.Q38_ : Array Bool := #[true, true, true, true, true, true, true, true, true, true, true, true, true, true, true, true, true, true, true, true, true, true, true, true, true, true, true, true, true, false, false, false, false, false, false, false, false]
def Go.Proofs.Q39_ : Array Bool := #[true, true, true, true, true, true, true, true, true, true, true, true, true, true, true, true, true, true, true, true, true, true, true, true, true, true, true, true, true, true, false, false, false, false, false, false, false]
def Go.Proofs.Q40_ : Array Bool := #[true, true, true, true, true, true, true, true, true, true, true, true, true, true, true, true, true, true, true, true, true, true, true, true, true, true, true, true, true, true, true, false, false, false, false, false, false]
def Go.Proofs.Q41_ : Array Bool := #[true, true, true, true, true, true, true, true, true, true, true, true, true, true, true, true, true, true, true, true, true, true, true, true, true, true, true, true, true, true, true, true, true, false, false, false, false]
def Go.Proofs.Q42_ : Array Bool := #[true, true, true, true, true, true, true, true, true, true, true, true, true, true, true, true, true, true, true, true, true, true, true, true, true, true, true, true, true, true, true, true, true, true, false, false, false]
def Go.Proofs.Q43_ : Array Bool := #[true, true, true, true, true, true, true, true, true, true, true, true, true, true, true, true, true, true, true, true, true, true, true, true, true, true, true, true, true, true, true, true, true, true, true, false, false]
def Go.Proofs.Q44_ : Array Bool := #[true, true, true, true, true, true, true, true, true, true, true, true, true, true, true, true, true, true, true, true, true, true, true, true, true, true, true, true, true, true, true, true, true, true, true, true, false]
def Go.Proofs.Q45_ : Array Bool := #[true, true, true, true, true, true, true, true, true, true, true, true, true, true, true, true, true, true, true, true, true, true, true, true, true, true, true, true, true, true, true, true, true, true, true, true, true]
def Go.Proofs.Q46_ : Array Bool := #[true, true, true, true, true, true, true, true, true, true, true, true, true, true, true, true, true, true, true, true, true, true, true, true, true, true, true, true, true, true, true, true, false, false, false, false, false]
def Go.Proofs.Q47_ : Array Bool := #[true, true, true, true, true, true, true, true, false, false]
def Go.Proofs.Q48_ : Array Bool := #[true, true, true, true, true, true, true, true, true, false]
def Go.Proofs.Q49_ : Array Bool := #[true, true, true, true, true, true, true, true, true, true]
def Go.Proofs.Q50_ : Array Bool := #[false, false, false, false, false, false, false, false, false, false, false, false, false, false, false, false, false]
def Go.Proofs.Q51_ : Array Bool := #[true, false, false, false, false, false, false, false, false, false, false, false, false, false, false, false, false]
def Go.Proofs.Q52_ : Array Bool := #[true, true, false, false, false, false, false, false, false, false, false, false, false, false, false, false, false]
def Go.Proofs.Q53_ : Array Bool := #[true, true, true, false, false, false, false, false, false, false, false, false, false, false, false, false, false]
def Go.Proofs.Q54_ : Array Bool := #[true, true, true, true, false, false, false, false, false, false, false, false, false, false, false, false, false]
def Go.Proofs.Q55_ : Array Bool := #[true, true, true, true, true, false, false, false, false, false, false, false, false, false, false, false, false]
def Go.Proofs.Q56_ : Array Bool := #[true, true, true, true, true, true, false, false, false, false, false, false, false, false, false, false, false]
def Go.Proofs.Q57_ : Array Bool := #[true, true, true, true, true, true, true, true, true, true, true, false, false, false, false, false, false]
def Go.Proofs.Q58_ : Array Bool := #[true, true, true, true, true, true, true, true, true, true, true, true, false, false, false, false, false]
def Go.Proofs.Q59_ : Array Bool := #[true, true, true, true, true, true, true, true, true, true, true, true, true, false, false, false, false]
def Go.Proofs.Q60_ : Array Bool := #[true, true, true, true, true, true, true, true, true, true, true, true, true, true, false, false, false]
def Go.Proofs.Q61_ : Array Bool := #[true, true, true, true, true, true, true, true, true, true, true, true, true, true, true, false, false]
def Go.Proofs.Q62_ : Array Bool := #[true, true, true, true, true, true, true, true, true, true, true, true, true, true, true, true, false]
def Go.Proofs.Q63_ : Array Bool := #[true, true, true, true, true, true, true, true, true, true, true, true, true, true, true, true, true]
def Go.Proofs.Q64_ : Array Bool := #[true, true, true, true, true, true, true, false, false, false]
def Go.Proofs.Q65_ : Array Bool := #[true, true, true, true, true, true, true, true, true, true, true, true, true, true, true, true, true, true, true, true, true, true, true, true, true, true, true, true, true, true, true, false, true, false, false, false, false]
def Go.Proofs.Q66_ : Array Bool := #[false, false, false, false, false, false, false, false, false, false, false, false, false, false]
def Go.Proofs.Q67_ : Array Bool := #[true, false, false, false, false, false, false, false, false, false, false, false, false, false]
def Go.Proofs.Q68_ : Array Bool := #[true, true, false, false, false, false, false, false, false, false, false, false, false, false]
def Go.Proofs.Q69_ : Array Bool := #[true, true, true, false, false, false, false, false, false, false, false, false, false, false]
def Go.Proofs.Q70_ : Array Bool := #[true, true, true, true, false, false, false, false, false, false, false, false, false, false]
def Go.Proofs.Q71_ : Array Bool := #[true, true, true, true, true, false, false, false, false, false, false, false, false, false]
def Go.Proofs.Q72_ : Array Bool := #[true, true, true, true, true, true, false, false, false, false, false, false, false, false]
def Go.Proofs.Q73_ : Array Bool := #[true, true, true, true, true, true, false, true, false, false, false, false, false, false]
def Go.Proofs.Q74_ : Array Bool := #[true, true, true, true, true, true, false, true, true, false, false, false, false, false]
def Go.Proofs.Q75_ : Array Bool := #[true, true, true, true, true, true, false, true, true, true, false, false, false, false]
def Go.Proofs.Q76_ : Array Bool := #[true, true, true, true, true, true, false, true, true, true, true, false, false, false]
def Go.Proofs.Q77_ : Array Bool := #[true, true, true, true, true, true, true, true, true, true, true, false, false, false]
def Go.Proofs.Q78_ : Array Bool := #[true, true, true, true, true, true, true, true, true, true, true, true, false, false]
def Go.Proofs.Q79_ : Array Bool := #[true, true, true, true, true, true, true, true, true, true, true, true, true, false]
def Go.Proofs.Q80_ : Array Bool := #[true, true, true, true, true, true, true, true, true, true, true, true, true, true]
def Go.Proofs.Q81_ : Array Bool := #[true, true, true, true, true, true, true, false, false, false, false, false, false, false, false, false, false]
def Go.Proofs.Q82_ : Array Bool := #[true, true, true, true, true, true, true, false, true, false, false, false, false, false, false, false, false]
def Go.Proofs.Q83_ : Array Bool := #[true, true, true, true, true, true, true, false, true, true, false, false, false, false, false, false, false]
def Go.Proofs.Q84_ : Array Bool := #[true, true, true, true, true, true, true, false, true, true, true, false, false, false, false, false, false]
def Go.Proofs.Q85_ : Array Bool := #[false, false, false, false, false, false, false, false, false, false]
def Go.Proofs.Q86_ : Array Bool := #[true, false, false, false, false, false, false, false, false, false]
def Go.Proofs.Q87_ : Array Bool := #[true, true, false, false, false, false, false, false, false, false]
def Go.Proofs.Q88_ : Array Bool := #[true, true, false, false, true, false, false, false, false, false]
def Go.Proofs.Q89_ : Array Bool := #[true, true, false, false, true, true, false, false, false, false]
def Go.Proofs.Q90_ : Array Bool := #[true, true, true, false, true, true, false, false, false, false]
def Go.Proofs.Q91_ : Array Bool := #[true, true, true, true, true, true, false, false, false, false]
def Go.Proofs.Q92_ : Array Bool := #[true, true, true, false, true, true, true, false, false, false]
def Go.Proofs.Q93_ : Array Bool := #[true, true, true, false, true, true, true, true, false, false]
def Go.Proofs.Q94_ : Array Bool := #[false, false, false, false, false, false, false, false, false, false, false, false, false, false, false, false, false, false, false, false, false]
def Go.Proofs.Q95_ : Array Bool := #[true, false, false, false, false, false, false, false, false, false, false, false, false, false, false, false, false, false, false, false, false]
def Go.Proofs.Q96_ : Array Bool := #[true, true, false, false, false, false, false, false, false, false, false, false, false, false, false, false, false, false, false, false, false]
def Go.Proofs.Q97_ : Array Bool := #[true, true, true, false, false, false, false, false, false, false, false, false, false, false, false, false, false, false, false, false, false]
def Go.Proofs.Q98_ : Array Bool := #[true, true, true, true, false, false, false, false, false, false, false, false, false, false, false, false, false, false, false, false, false]
def Go.Proofs.Q99_ : Array Bool := #[true, true, true, true, false, true, false, false, false, false, false, false, false, false, false, false, false, false, false, false, false]
def Go.Proofs.Q100_ : Array Bool := #[true, true, true, true, false, true, true, false, false, false, false, false, false, false, false, false, false, false, false, false, false]
def Go.Proofs.Q101_ : Array Bool := #[true, true, true, true, false, true, true, true, false, false, false, false, false, false, false, false, false, false, false, false, false]
def Go.Proofs.Q102_ : Array Bool := #[true, true, true, true, false, true, true, true, true, false, false, false, false, false, false, false, false, false, false, false, false]
def Go.Proofs.Q103_ : Array Bool := #[true, true, true, true, false, true, true, true, true, true, false, false, false, false, false, false, false, false, false, false, false]
def Go.Proofs.Q104_ : Array Bool := #[true, true, true, true, false, true, true, true, true, true, true, false, false, false, false, false, false, false, false, false, false]
def Go.Proofs.Q105_ : Array Bool := #[true, true, true, true, false, true, true, true, true, true, true, true, false, false, false, false, false, false, false, false, false]
def Go.Proofs.Q106_ : Array Bool := #[true, true, true, true, false, true, true, true, true, true, true, true, false, false, true, false, false, false, false, false, false]
def Go.Proofs.Q107_ : Array Bool := #[true, true, true, true, false, true, true, true, true, true, true, true, false, false, true, true, false, false, false, false, false]
def Go.Proofs.Q108_ : Array Bool := #[true, true, true, true, false, true, true, true, true, true, true, true, false, false, true, true, true, false, false, false, false]
def Go.Proofs.Q109_ : Array Bool := #[true, true, true, true, true, true, true, true, true, true, true, true, false, false, true, true, true, false, false, false, false]
def Go.Proofs.Q110_ : Array Bool := #[true, true, true, true, true, true, true, true, true, true, true, true, true, false, true, true, true, false, false, false, false]
def Go.Proofs.Q111_ : Array Bool := #[true, true, true, true, true, true, true, true, true, true, true, true, true, true, true, true, true, false, false, false, false]
def Go.Proofs.Q112_ : Array Bool := #[true, true, true, true, true, true, true, true, true, true, true, true, true, true, true, true, true, true, false, false, false]
def Go.Proofs.Q113_ : Array Bool := #[true, true, true, true, true, true, true, true, true, true, true, true, true, true, true, true, true, true, true, false, false]
def Go.Proofs.Q114_ : Array Bool := #[true, true, true, true, true, true, true, true, true, true, true, true, true, true, true, true, true, true, true, true, false]
def Go.Proofs.Q115_ : Array Bool := #[true, true, true, true, true, true, true, true, true, true, true, true, true, true, true, true, true, true, true, true, true]
def Go.Proofs.Q116_ : Array Bool := #[true, true, true, true, true, true, false, true, false, false, false, false, false, false, false, false, false]
def Go.Proofs.Q117_ : Array Bool := #[true, true, true, true, true, true, false, true, true, false, false, false, false, false, false, false, false]
def Go.Proofs.Q118_ : Array Bool := #[true, true, true, true, true, true, true, true, true, false, false, false, false, false, false, false, false]
def Go.Proofs.Q119_ : Array Bool := #[true, true, true, true, true, true, true, true, true, true, false, false, false, false, false, false, false]
def Go.Proofs.Q120_ : Array Bool := #[false, false, false, false, false, false, false, false, false, false, false, false, false, false, false, false]
def Go.Proofs.Q121_ : Array Bool := #[true, false, false, false, false, false, false, false, false, false, false, false, false, false, false, false]
def Go.Proofs.Q122_ : Array Bool := #[true, true, false, false, false, false, false, false, false, false, false, false, false, false, false, false]
def Go.Proofs.Q123_ : Array Bool := #[true, true, true, false, false, false, false, false, false, false, false, false, false, false, false, false]
def Go.Proofs.Q124_ : Array Bool := #[true, true, true, true, false, false, false, false, false, false, false, false, false, false, false, false]
def Go.Proofs.Q125_ : Array Bool := #[true, true, true, true, true, false, false, false, false, false, false, false, false, false, false, false]
def Go.Proofs.Q126_ : Array Bool := #[true, true, true, true, true, true, false, false, false, false, false, false, false, false, false, false]
def Go.Proofs.Q127_ : Array Bool := #[true, true, true, true, true, true, true, false, false, false, false, false, false, false, false, false]
def Go.Proofs.Q128_ : Array Bool := #[true, true, true, true, true, true, true, false, true, false, false, false, false, false, false, false]
def Go.Proofs.Q129_ : Array Bool := #[true, true, true, true, true, true, true, false, true, true, false, false, false, false, false, false]
def Go.Proofs.Q130_ : Array Bool := #[true, true, true, true, true, true, true, false, true, true, true, false, false, false, false, false]
def Go.Proofs.Q131_ : Array Bool := #[true, true, true, true, true, true, true, false, true, true, true, true, false, false, false, false]
def Go.Proofs.Q132_ : Array Bool := #[true, true, true, true, true, true, true, false, true, true, true, true, true, false, false, false]
def Go.Proofs.Q133_ : Array Bool := #[true, true, true, true, true, true, true, true, true, true, true, true, true, false, false, false]
def Go.Proofs.Q134_ : Array Bool := #[true, true, true, true, true, true, true, true, true, true, true, true, true, true, false, false]
def Go.Proofs.Q135_ : Array Bool := #[true, true, true, true, true, true, true, true, true, true, true, true, true, true, true, false]
def Go.Proofs.Q136_ : Array Bool := #[true, true, true, true, true, true, true, true, true, true, true, true, true, true, true, true]
def Go.Proofs.Q137_ : Array Bool := #[false, false, false, false, false, false, false, false, false, false, false, false, false, false, false, false, false, false, false]
def Go.Proofs.Q138_ : Array Bool := #[true, false, false, false, false, false, false, false, false, false, false, false, false, false, false, false, false, false, false]
def Go.Proofs.Q139_ : Array Bool := #[true, true, false, false, false, false, false, false, false, false, false, false, false, false, false, false, false, false, false]
def Go.Proofs.Q140_ : Array Bool := #[true, true, true, false, false, false, false, false, false, false, false, false, false, false, false, false, false, false, false]
def Go.Proofs.Q141_ : Array Bool := #[true, true, true, false, true, false, false, false, false, false, false, false, false, false, false, false, false, false, false]
def Go.Proofs.Q142_ : Array Bool := #[true, true, true, false, true, true, false, false, false, false, false, false, false, false, false, false, false, false, false]
def Go.Proofs.Q143_ : Array Bool := #[true, true, true, false, true, true, true, false, false, false, false, false, false, false, false, false, false, false, false]
def Go.Proofs.Q144_ : Array Bool := #[true, true, true, false, true, true, true, true, false, false, false, false, false, false, false, false, false, false, false]
def Go.Proofs.Q145_ : Array Bool := #[true, true, true, false, true, true, true, true, true, false, false, false, false, false, false, false, false, false, false]
def Go.Proofs.Q146_ : Array Bool := #[true, true, true, false, true, true, true, true, true, true, false, false, false, false, false, false, false, false, false]
def Go.Proofs.Q147_ : Array Bool := #[true, true, true, false, true, true, true, true, true, true, true, false, false, false, false, false, false, false, false]
def Go.Proofs.Q148_ : Array Bool := #[true, true, true, false, true, true, true, true, true, true, true, false, true, false, false, false, false, false, false]
def Go.Proofs.Q149_ : Array Bool := #[true, true, true, false, true, true, true, true, true, true, true, false, true, true, false, false, false, false, false]
def Go.Proofs.Q150_ : Array Bool := #[true, true, true, false, true, true, true, true, true, true, true, false, true, true, true, false, false, false, false]
def Go.Proofs.Q151_ : Array Bool := #[true, true, true, true, true, true, true, true, true, true, true, false, true, true, true, false, false, false, false]
def Go.Proofs.Q152_ : Array Bool := #[true, true, true, true, true, true, true, true, true, true, true, true, true, true, true, false, false, false, false]
def Go.Proofs.Q153_ : Array Bool := #[true, true, true, true, true, true, true, true, true, true, true, true, true, true, true, true, false, false, false]
def Go.Proofs.Q154_ : Array Bool := #[true, true, true, true, true, true, true, true, true, true, true, true, true, true, true, true, true, false, false]
def Go.Proofs.Q155_ : Array Bool := #[true, true, true, true, true, true, true, true, true, true, true, true, true, true, true, true, true, true, false]
def Go.Proofs.Q156_ : Array Bool := #[true, true, true, true, true, true, true, true, true, true, true, true, true, true, true, true, true, true, true]
theorem Go.Proofs.Z29_ {p : Prop} (h : p := by rw [List.length_set]; exact ho) : p := h
theorem Go.Proofs.Z28_ {p : Prop} (h : p := by first | exact below_drawn0 hq | exact hq) : p := h
theorem Go.Proofs.Z27_ {p : Prop} (h : p := by first | rfl | (simp; done) | (simp [*]; done)) : p := h
theorem Go.Proofs.Z26_ {p : Prop} (h : p := by first | (with_reducible assumption) | assumption) : p := h
theorem Go.Proofs.Z25_ {p : Prop} (h : p := by first | rfl | (simp; done) | (simp only [← hji3] <;> (first | rfl | simp)) | (simp [*]; done)) : p := h
theorem Go.Proofs.Z18_ {p : Prop} (h : p := by (with_reducible repeat (first | apply Kd.yba | apply Kd.yaz | apply Kd.ybi)); exact HO_3.out) : p := h
theorem Go.Proofs.Z19_ {p : Prop} (h : p := by (with_reducible repeat (first | apply Kd.yba | apply Kd.yaz | apply Kd.ybi)); exact HO_5.out) : p := h
theorem Go.Proofs.Z20_ {p : Prop} (h : p := by (with_reducible repeat (first | apply Kd.yba | apply Kd.yaz | apply Kd.ybi)); exact HO_6.out) : p := h
theorem Go.Proofs.Z21_ {p : Prop} (h : p := by (with_reducible repeat (first | apply Kd.yba | apply Kd.yaz | apply Kd.ybi)); exact HO_7.out) : p := h
theorem Go.Proofs.Z22_ {p : Prop} (h : p := by (with_reducible repeat (first | apply Kd.yba | apply Kd.yaz | apply Kd.ybi)); exact HO_4.out) : p := h
theorem Go.Proofs.Z23_ {p : Prop} (h : p := by (with_reducible repeat (first | apply Kd.yba | apply Kd.yaz | apply Kd.ybi)); exact HO_0.out) : p := h
theorem Go.Proofs.Z24_ {p : Prop} (h : p := by (with_reducible repeat (first | apply Kd.yba | apply Kd.yaz | apply Kd.ybi)); exact HO_1.out) : p := h
theorem Go.Proofs.Z9_ {p : Prop} (h : p := by (with_reducible repeat (first | apply Kd.yba | apply Kd.yaz | apply Kd.ybi)); exact HO1003.out) : p := h
theorem Go.Proofs.Z10_ {p : Prop} (h : p := by (with_reducible repeat (first | apply Kd.yba | apply Kd.yaz | apply Kd.ybi)); exact HO1006.out) : p := h
theorem Go.Proofs.Z11_ {p : Prop} (h : p := by (with_reducible repeat (first | apply Kd.yba | apply Kd.yaz | apply Kd.ybi)); exact HO1012.out) : p := h
theorem Go.Proofs.Z12_ {p : Prop} (h : p := by (with_reducible repeat (first | apply Kd.yba | apply Kd.yaz | apply Kd.ybi)); exact HO1026.out) : p := h
theorem Go.Proofs.Z13_ {p : Prop} (h : p := by (with_reducible repeat (first | apply Kd.yba | apply Kd.yaz | apply Kd.ybi)); exact HO1038.out) : p := h
theorem Go.Proofs.Z14_ {p : Prop} (h : p := by (with_reducible repeat (first | apply Kd.yba | apply Kd.yaz | apply Kd.ybi)); exact HO1010.out) : p := h
theorem Go.Proofs.Z15_ {p : Prop} (h : p := by (with_reducible repeat (first | apply Kd.yba | apply Kd.yaz | apply Kd.ybi)); exact HO1013.out) : p := h
theorem Go.Proofs.Z16_ {p : Prop} (h : p := by (with_reducible repeat (first | apply Kd.yba | apply Kd.yaz | apply Kd.ybi)); exact HO1004.out) : p := h
theorem Go.Proofs.Z17_ {p : Prop} (h : p := by (with_reducible repeat (first | apply Kd.yba | apply Kd.yaz | apply Kd.ybi)); exact HO1007.out) : p := h
theorem Go.Proofs.Z8_ {p : Prop} (h : p := by (with_reducible repeat (first | refine blk_drewN ?_ _ | refine yeg ?_ | refine blk_alloc ?_ _)); exact BK1001.out) : p := h
theorem Go.Proofs.Z7_ {p : Prop} (h : p := by repeat (first | (with_reducible first | exact HB.out | apply yad | apply yab | apply yac) | exact HB.out)) : p := h
theorem Go.Proofs.Z6_ {p : Prop} (h : p := by (try simp only [List.map_toArray, List.map_cons, List.map_nil]); first | done | rfl | (simp only [List.length_drop, List.length_take]; rfl)) : p := h
theorem Go.Proofs.Z5_ {p : Prop} (h : p := by repeat (first | (with_reducible first | exact HB.out | apply yad | apply yab | apply yac | refine ybx ?_ GE1001.out) | exact HB.out)) : p := h
theorem Go.Proofs.Z4_ {p : Prop} (h : p := by repeat (first | with_reducible exact Aside0.out (by assumption) | with_reducible refine World.rangeAt_alloc ?_ _ | with_reducible refine (World.rangeAt_drew _ _ _ _).2 ?_ | refine range_step ?_ (Aside0.out (by assumption)))) : p := h
theorem Go.Proofs.Z3_ {p : Prop} (h : p := by repeat (first | with_reducible exact Aside0.out (by assumption) | with_reducible refine blk_alloc ?_ _ | with_reducible refine yeg ?_ | with_reducible refine blk_drewN ?_ _ | refine ybq ?_ (Aside0.out (by assumption)))) : p := h
theorem Go.Proofs.Z2_ {p : Prop} (h : p := by repeat (first | with_reducible exact Aside0.out (by assumption) | with_reducible refine Kd.yau ?_ _ | with_reducible refine Kd.yaw ?_ _ | with_reducible refine Kd.ybe ?_ | refine Kd.ybg ?_ (Aside0.out (by assumption)))) : p := h
theorem Go.Proofs.Z1_ {p : Prop} (h : p := by repeat (first | with_reducible exact Below.refl _ _ | with_reducible exact Aside0.out (by assumption) | with_reducible refine yad ?_ _ | with_reducible refine yab ?_ _ | with_reducible refine yac ?_ | refine yai ?_ (Aside0.out (by assumption)))) : p := h
theorem Go.Proofs.Z0_ {p : Prop} (h : p := by (try simp only [List.map_toArray, List.map_cons, List.map_nil]); first | done | (rw [show (l0.take (x3_1 : Int).toNat).length = x3_1.toNat from (by rw [List.length_take]; have h_ : (x3_1 : Int) ≤ (l0.length : Int) := of_decide_eq_true Z26_; omega)] <;> rfl) | rfl | (simp only [List.length_drop, List.length_take]; rfl)) : p := h
