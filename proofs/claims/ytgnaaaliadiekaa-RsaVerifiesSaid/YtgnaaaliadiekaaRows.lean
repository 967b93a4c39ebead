/-
  No cell of these rows narrows 'for every input' (looked for: loops, veiled, ifaces, maps, wideKeys, modest, calm, conditions, laid).
  DERIVED. THE GIVEN ROWS OF THIS SEAT. 7 by the template 'for every input the law returns true; each argument reads behind the call as it read before'; 0 by the template 'total and deterministic' (their statements: YtgnaaaliadiekaaTotals.lean).
  GIVEN WITH THE SEED: the statements are not yours to turn. If you find one false, say at which input.
  Laid BY PROGRAM, IN A SANDBOX (cutbox-rows.mjs): the forced cells as the released guide's own fill.sh prints them over the translation 8fe5ab8f39583f1c… (all of the seat's roots in one cut). By AI agents, Wed Nov 11 2026. No macro, syntax, notation, axiom, sorry.
-/
import Derived.Test.YtgnaaaliadiekaaChecked
import GoSem.Claim
import GoSem.ClaimJoined
import GoSem.ClaimMapViews
import Derived.JoinedTies
import Derived.KernelRfl
namespace Go.Proofs.Ytgnaaaliadiekaa
/- THE CELL 'sum', in the pinned program and in every row, IS THE sha256 OF THE DUMP (.gsa) THAT YtgnaaaliadiekaaProg.lean LOADS. Nothing in Lean hashes anything: it is a label: what it is worth is what the hold of that sum in a sandbox is worth. -/
noncomputable def Try.pinned : Pinned := { name := "ytgnaaaliadiekaa", sum := "8fe5ab8f39583f1c96fe70a331da71d97c75ce3d0821b76e0e0c38d628ea5017", checked := Try.checked }
namespace Rows
def none {H : Type} : Left H := { results := [], args := [] }

/-- 'latchkeylaw01.NatBits': WHATEVER THE INPUT: true; the input reads as it did. -/
def natBitsSpec : ChangeSpec := { name := "natBits", fn := fun _ => fun
  | [d1, d2] => { results := [.lit (.bool true)], args := [d1, d2] }
  | _ => none }
def natBitsRow : OpenClaim := { program := "ytgnaaaliadiekaa", sum := "8fe5ab8f39583f1c96fe70a331da71d97c75ce3d0821b76e0e0c38d628ea5017", func := "latchkey/latchkeylaw01.NatBits", spec := "natBits", inPlace := ["math/bits.Add64", "math/bits.Sub64"], unfollowed := true, recurses := true, named := ["math/bits.divideError", "math/bits.overflowError"], apart := false }
def NatBitsSaid : Prop := natBitsRow.holds Try.pinned (OpenSpec.ofChange natBitsSpec)

/-- ITS FALSE NEIGHBOUR: 'it returns false'. Refute it at one input. -/
def natBitsWrong : ChangeSpec := { name := "natBits", fn := fun _ => fun
  | [d1, d2] => { results := [.lit (.bool false)], args := [d1, d2] }
  | _ => none }
def NatBitsWrongFalsely : Prop := natBitsRow.holds Try.pinned (OpenSpec.ofChange natBitsWrong)

/-- 'latchkeylaw09.RsaPads': WHATEVER THE INPUT: true; the input reads as it did. -/
def rsaPadsSpec : ChangeSpec := { name := "rsaPads", fn := fun _ => fun
  | [d1, d2] => { results := [.lit (.bool true)], args := [d1, d2] }
  | _ => none }
def rsaPadsRow : OpenClaim := { program := "ytgnaaaliadiekaa", sum := "8fe5ab8f39583f1c96fe70a331da71d97c75ce3d0821b76e0e0c38d628ea5017", func := "latchkey/latchkeylaw09.RsaPads", spec := "rsaPads", inPlace := ["internal/bytealg.MakeNoZero"], apart := false }
def RsaPadsSaid : Prop := rsaPadsRow.holds Try.pinned (OpenSpec.ofChange rsaPadsSpec)

/-- ITS FALSE NEIGHBOUR: 'it returns false'. Refute it at one input. -/
def rsaPadsWrong : ChangeSpec := { name := "rsaPads", fn := fun _ => fun
  | [d1, d2] => { results := [.lit (.bool false)], args := [d1, d2] }
  | _ => none }
def RsaPadsWrongFalsely : Prop := rsaPadsRow.holds Try.pinned (OpenSpec.ofChange rsaPadsWrong)

/-- 'latchkeylaw09.RsaPowers': WHATEVER THE INPUT: true; the input reads as it did. -/
def rsaPowersSpec : ChangeSpec := { name := "rsaPowers", fn := fun _ => fun
  | [d1, d2] => { results := [.lit (.bool true)], args := [d1, d2] }
  | _ => none }
def rsaPowersRow : OpenClaim := { program := "ytgnaaaliadiekaa", sum := "8fe5ab8f39583f1c96fe70a331da71d97c75ce3d0821b76e0e0c38d628ea5017", func := "latchkey/latchkeylaw09.RsaPowers", spec := "rsaPowers", inPlace := ["internal/bytealg.MakeNoZero"], apart := false }
def RsaPowersSaid : Prop := rsaPowersRow.holds Try.pinned (OpenSpec.ofChange rsaPowersSpec)

/-- ITS FALSE NEIGHBOUR: 'it returns false'. Refute it at one input. -/
def rsaPowersWrong : ChangeSpec := { name := "rsaPowers", fn := fun _ => fun
  | [d1, d2] => { results := [.lit (.bool false)], args := [d1, d2] }
  | _ => none }
def RsaPowersWrongFalsely : Prop := rsaPowersRow.holds Try.pinned (OpenSpec.ofChange rsaPowersWrong)

/-- 'latchkeylaw09.RsaChecks': WHATEVER THE INPUT: true; the input reads as it did. -/
def rsaChecksSpec : ChangeSpec := { name := "rsaChecks", fn := fun _ => fun
  | [d1, d2, d3, d4] => { results := [.lit (.bool true)], args := [d1, d2, d3, d4] }
  | _ => none }
def rsaChecksRow : OpenClaim := { program := "ytgnaaaliadiekaa", sum := "8fe5ab8f39583f1c96fe70a331da71d97c75ce3d0821b76e0e0c38d628ea5017", func := "latchkey/latchkeylaw09.RsaChecks", spec := "rsaChecks", inPlace := ["internal/bytealg.MakeNoZero"], apart := false }
def RsaChecksSaid : Prop := rsaChecksRow.holds Try.pinned (OpenSpec.ofChange rsaChecksSpec)

/-- ITS FALSE NEIGHBOUR: 'it returns false'. Refute it at one input. -/
def rsaChecksWrong : ChangeSpec := { name := "rsaChecks", fn := fun _ => fun
  | [d1, d2, d3, d4] => { results := [.lit (.bool false)], args := [d1, d2, d3, d4] }
  | _ => none }
def RsaChecksWrongFalsely : Prop := rsaChecksRow.holds Try.pinned (OpenSpec.ofChange rsaChecksWrong)

/-- 'latchkeylaw09.RsaSigns': WHATEVER THE INPUT: true; the input reads as it did. -/
def rsaSignsSpec : ChangeSpec := { name := "rsaSigns", fn := fun _ => fun
  | [d1, d2, d3, d4] => { results := [.lit (.bool true)], args := [d1, d2, d3, d4] }
  | _ => none }
def rsaSignsRow : OpenClaim := { program := "ytgnaaaliadiekaa", sum := "8fe5ab8f39583f1c96fe70a331da71d97c75ce3d0821b76e0e0c38d628ea5017", func := "latchkey/latchkeylaw09.RsaSigns", spec := "rsaSigns", inPlace := ["internal/bytealg.MakeNoZero", "math/bits.Add64", "math/bits.Sub64"], unfollowed := true, recurses := true, named := ["math/bits.divideError", "math/bits.overflowError"], apart := false }
def RsaSignsSaid : Prop := rsaSignsRow.holds Try.pinned (OpenSpec.ofChange rsaSignsSpec)

/-- ITS FALSE NEIGHBOUR: 'it returns false'. Refute it at one input. -/
def rsaSignsWrong : ChangeSpec := { name := "rsaSigns", fn := fun _ => fun
  | [d1, d2, d3, d4] => { results := [.lit (.bool false)], args := [d1, d2, d3, d4] }
  | _ => none }
def RsaSignsWrongFalsely : Prop := rsaSignsRow.holds Try.pinned (OpenSpec.ofChange rsaSignsWrong)

/-- 'latchkeylaw09.RsaVerifies': WHATEVER THE INPUT: true; the input reads as it did. -/
def rsaVerifiesSpec : ChangeSpec := { name := "rsaVerifies", fn := fun _ => fun
  | [d1, d2, d3, d4, d5] => { results := [.lit (.bool true)], args := [d1, d2, d3, d4, d5] }
  | _ => none }
def rsaVerifiesRow : OpenClaim := { program := "ytgnaaaliadiekaa", sum := "8fe5ab8f39583f1c96fe70a331da71d97c75ce3d0821b76e0e0c38d628ea5017", func := "latchkey/latchkeylaw09.RsaVerifies", spec := "rsaVerifies", inPlace := ["internal/bytealg.MakeNoZero", "math/bits.Add64", "math/bits.Sub64"], unfollowed := true, recurses := true, named := ["math/bits.divideError", "math/bits.overflowError"], apart := false }
def RsaVerifiesSaid : Prop := rsaVerifiesRow.holds Try.pinned (OpenSpec.ofChange rsaVerifiesSpec)

/-- ITS FALSE NEIGHBOUR: 'it returns false'. Refute it at one input. -/
def rsaVerifiesWrong : ChangeSpec := { name := "rsaVerifies", fn := fun _ => fun
  | [d1, d2, d3, d4, d5] => { results := [.lit (.bool false)], args := [d1, d2, d3, d4, d5] }
  | _ => none }
def RsaVerifiesWrongFalsely : Prop := rsaVerifiesRow.holds Try.pinned (OpenSpec.ofChange rsaVerifiesWrong)

/-- 'latchkeylaw12.SigsPairs': WHATEVER THE INPUT: true; the input reads as it did. -/
def sigsPairsSpec : ChangeSpec := { name := "sigsPairs", fn := fun _ => fun
  | [d1, d2, d3, d4, d5, d6] => { results := [.lit (.bool true)], args := [d1, d2, d3, d4, d5, d6] }
  | _ => none }
def sigsPairsRow : OpenClaim := { program := "ytgnaaaliadiekaa", sum := "8fe5ab8f39583f1c96fe70a331da71d97c75ce3d0821b76e0e0c38d628ea5017", func := "latchkey/latchkeylaw12.SigsPairs", spec := "sigsPairs", unfollowed := true, recurses := true, apart := false }
def SigsPairsSaid : Prop := sigsPairsRow.holds Try.pinned (OpenSpec.ofChange sigsPairsSpec)

/-- ITS FALSE NEIGHBOUR: 'it returns false'. Refute it at one input. -/
def sigsPairsWrong : ChangeSpec := { name := "sigsPairs", fn := fun _ => fun
  | [d1, d2, d3, d4, d5, d6] => { results := [.lit (.bool false)], args := [d1, d2, d3, d4, d5, d6] }
  | _ => none }
def SigsPairsWrongFalsely : Prop := sigsPairsRow.holds Try.pinned (OpenSpec.ofChange sigsPairsWrong)

/- THE SECOND FORM. 'bulk': how many values and letters a reading holds, each counted each time it is reached (what is shared counts as often as it is met; a slice's spare places count too). A statement '..UptoSaid' is the law's where the arguments, and the package variables that the reading takes, are together of bulk at most 1048576: NARROWER than '..Said'. Prove '..Said' where nothing that the law and all that it calls make is longer than what came in: it says more and counts as full. Else prove '..UptoSaid'. A law counts once. -/
mutual
def uptoBulk {H : Type} : DataW H → Nat
  | .lit (.string bytes) => bytes.length + 1
  | .lit _ => 1
  | .nil => 1
  | .ptr d => uptoBulk d + 1
  | .slice elems spare => uptoBulkAll elems + uptoBulkAll spare + 1
  | .agg parts => uptoBulkAll parts + 1
  | .iface _ d => uptoBulk d + 1
  | .map entries => uptoBulkEntries entries + 1
  | .held _ => 1
def uptoBulkAll {H : Type} : List (DataW H) → Nat
  | [] => 0
  | d :: r => uptoBulk d + uptoBulkAll r
def uptoBulkEntries {H : Type} : List (Lit × DataW H) → Nat
  | [] => 0
  | x :: r => uptoBulkEntry x + uptoBulkEntries r
def uptoBulkEntry {H : Type} : Lit × DataW H → Nat
  | (.string bytes, d) => bytes.length + uptoBulk d + 1
  | (_, d) => uptoBulk d + 1
 end
def uptoSmall : (H : Type) → List (DataW H) → Bool := fun _ ds => decide (uptoBulkAll ds ≤ 1048576)
def OpenSpec.upto (s : _root_.Go.ChangeSpec) : _root_.Go.OpenSpec := { _root_.Go.OpenSpec.ofChange s with cond := some uptoSmall }

/-- 'latchkeylaw01.NatBits', WHERE WHAT IT READS IS OF BULK AT MOST 1048576: true; the input reads as it did. -/
def natBitsUptoRow : OpenClaim := { program := "ytgnaaaliadiekaa", sum := "8fe5ab8f39583f1c96fe70a331da71d97c75ce3d0821b76e0e0c38d628ea5017", func := "latchkey/latchkeylaw01.NatBits", spec := "natBits", inPlace := ["math/bits.Add64", "math/bits.Sub64"], unfollowed := true, recurses := true, named := ["math/bits.divideError", "math/bits.overflowError"], apart := false, narrowed := true }
def NatBitsUptoSaid : Prop := natBitsUptoRow.holds Try.pinned (OpenSpec.upto natBitsSpec)

/-- 'latchkeylaw09.RsaPads', WHERE WHAT IT READS IS OF BULK AT MOST 1048576: true; the input reads as it did. -/
def rsaPadsUptoRow : OpenClaim := { program := "ytgnaaaliadiekaa", sum := "8fe5ab8f39583f1c96fe70a331da71d97c75ce3d0821b76e0e0c38d628ea5017", func := "latchkey/latchkeylaw09.RsaPads", spec := "rsaPads", inPlace := ["internal/bytealg.MakeNoZero"], apart := false, narrowed := true }
def RsaPadsUptoSaid : Prop := rsaPadsUptoRow.holds Try.pinned (OpenSpec.upto rsaPadsSpec)

/-- 'latchkeylaw09.RsaPowers', WHERE WHAT IT READS IS OF BULK AT MOST 1048576: true; the input reads as it did. -/
def rsaPowersUptoRow : OpenClaim := { program := "ytgnaaaliadiekaa", sum := "8fe5ab8f39583f1c96fe70a331da71d97c75ce3d0821b76e0e0c38d628ea5017", func := "latchkey/latchkeylaw09.RsaPowers", spec := "rsaPowers", inPlace := ["internal/bytealg.MakeNoZero"], apart := false, narrowed := true }
def RsaPowersUptoSaid : Prop := rsaPowersUptoRow.holds Try.pinned (OpenSpec.upto rsaPowersSpec)

/-- 'latchkeylaw09.RsaChecks', WHERE WHAT IT READS IS OF BULK AT MOST 1048576: true; the input reads as it did. -/
def rsaChecksUptoRow : OpenClaim := { program := "ytgnaaaliadiekaa", sum := "8fe5ab8f39583f1c96fe70a331da71d97c75ce3d0821b76e0e0c38d628ea5017", func := "latchkey/latchkeylaw09.RsaChecks", spec := "rsaChecks", inPlace := ["internal/bytealg.MakeNoZero"], apart := false, narrowed := true }
def RsaChecksUptoSaid : Prop := rsaChecksUptoRow.holds Try.pinned (OpenSpec.upto rsaChecksSpec)

/-- 'latchkeylaw09.RsaSigns', WHERE WHAT IT READS IS OF BULK AT MOST 1048576: true; the input reads as it did. -/
def rsaSignsUptoRow : OpenClaim := { program := "ytgnaaaliadiekaa", sum := "8fe5ab8f39583f1c96fe70a331da71d97c75ce3d0821b76e0e0c38d628ea5017", func := "latchkey/latchkeylaw09.RsaSigns", spec := "rsaSigns", inPlace := ["internal/bytealg.MakeNoZero", "math/bits.Add64", "math/bits.Sub64"], unfollowed := true, recurses := true, named := ["math/bits.divideError", "math/bits.overflowError"], apart := false, narrowed := true }
def RsaSignsUptoSaid : Prop := rsaSignsUptoRow.holds Try.pinned (OpenSpec.upto rsaSignsSpec)

/-- 'latchkeylaw09.RsaVerifies', WHERE WHAT IT READS IS OF BULK AT MOST 1048576: true; the input reads as it did. -/
def rsaVerifiesUptoRow : OpenClaim := { program := "ytgnaaaliadiekaa", sum := "8fe5ab8f39583f1c96fe70a331da71d97c75ce3d0821b76e0e0c38d628ea5017", func := "latchkey/latchkeylaw09.RsaVerifies", spec := "rsaVerifies", inPlace := ["internal/bytealg.MakeNoZero", "math/bits.Add64", "math/bits.Sub64"], unfollowed := true, recurses := true, named := ["math/bits.divideError", "math/bits.overflowError"], apart := false, narrowed := true }
def RsaVerifiesUptoSaid : Prop := rsaVerifiesUptoRow.holds Try.pinned (OpenSpec.upto rsaVerifiesSpec)

/-- 'latchkeylaw12.SigsPairs', WHERE WHAT IT READS IS OF BULK AT MOST 1048576: true; the input reads as it did. -/
def sigsPairsUptoRow : OpenClaim := { program := "ytgnaaaliadiekaa", sum := "8fe5ab8f39583f1c96fe70a331da71d97c75ce3d0821b76e0e0c38d628ea5017", func := "latchkey/latchkeylaw12.SigsPairs", spec := "sigsPairs", unfollowed := true, recurses := true, apart := false, narrowed := true }
def SigsPairsUptoSaid : Prop := sigsPairsUptoRow.holds Try.pinned (OpenSpec.upto sigsPairsSpec)

end Rows
end Go.Proofs.Ytgnaaaliadiekaa
