/-
  No cell of these rows narrows 'for every input' (looked for: loops, veiled, ifaces, maps, wideKeys, modest, calm, conditions, laid).
  DERIVED. THE GIVEN ROWS OF THIS SEAT. 14 by the template 'for every input the law returns true; each argument reads behind the call as it read before'; 0 by the template 'total and deterministic' (their statements: YtbnbofflnpppfaaTotals.lean).
  GIVEN WITH THE SEED: the statements are not yours to turn. If you find one false, say at which input.
  Laid BY PROGRAM, IN A SANDBOX (cutbox-rows.mjs): the forced cells as the released guide's own fill.sh prints them over the translation bb6374c6890c9cf7… (all of the seat's roots in one cut). By AI agents, Wed Nov 11 2026. No macro, syntax, notation, axiom, sorry.
-/
import Derived.Test.YtbnbofflnpppfaaChecked
import GoSem.Claim
import GoSem.ClaimJoined
import GoSem.ClaimMapViews
import Derived.JoinedTies
import Derived.KernelRfl
namespace Go.Proofs.Ytbnbofflnpppfaa
/- THE CELL 'sum', in the pinned program and in every row, IS THE sha256 OF THE DUMP (.gsa) THAT YtbnbofflnpppfaaProg.lean LOADS. Nothing in Lean hashes anything: it is a label: what it is worth is what the hold of that sum in a sandbox is worth. -/
noncomputable def Try.pinned : Pinned := { name := "ytbnbofflnpppfaa", sum := "bb6374c6890c9cf7624b9030d68f0da1d872b5724f77329594e825799ee6d022", checked := Try.checked }
namespace Rows
def none {H : Type} : Left H := { results := [], args := [] }

/-- 'latchkeylaw01.NatNorms': WHATEVER THE INPUT: true; the input reads as it did. -/
def natNormsSpec : ChangeSpec := { name := "natNorms", fn := fun _ => fun
  | [d1, d2] => { results := [.lit (.bool true)], args := [d1, d2] }
  | _ => none }
def natNormsRow : OpenClaim := { program := "ytbnbofflnpppfaa", sum := "bb6374c6890c9cf7624b9030d68f0da1d872b5724f77329594e825799ee6d022", func := "latchkey/latchkeylaw01.NatNorms", spec := "natNorms", inPlace := ["math/bits.Add64", "math/bits.Sub64"], named := ["math/bits.divideError", "math/bits.overflowError"], apart := false }
def NatNormsSaid : Prop := natNormsRow.holds Try.pinned (OpenSpec.ofChange natNormsSpec)

/-- ITS FALSE NEIGHBOUR: 'it returns false'. Refute it at one input. -/
def natNormsWrong : ChangeSpec := { name := "natNorms", fn := fun _ => fun
  | [d1, d2] => { results := [.lit (.bool false)], args := [d1, d2] }
  | _ => none }
def NatNormsWrongFalsely : Prop := natNormsRow.holds Try.pinned (OpenSpec.ofChange natNormsWrong)

/-- 'latchkeylaw01.NatCmps': WHATEVER THE INPUT: true; the input reads as it did. -/
def natCmpsSpec : ChangeSpec := { name := "natCmps", fn := fun _ => fun
  | [d1, d2] => { results := [.lit (.bool true)], args := [d1, d2] }
  | _ => none }
def natCmpsRow : OpenClaim := { program := "ytbnbofflnpppfaa", sum := "bb6374c6890c9cf7624b9030d68f0da1d872b5724f77329594e825799ee6d022", func := "latchkey/latchkeylaw01.NatCmps", spec := "natCmps", inPlace := ["math/bits.Add64", "math/bits.Sub64"], named := ["math/bits.divideError", "math/bits.overflowError"], apart := false }
def NatCmpsSaid : Prop := natCmpsRow.holds Try.pinned (OpenSpec.ofChange natCmpsSpec)

/-- ITS FALSE NEIGHBOUR: 'it returns false'. Refute it at one input. -/
def natCmpsWrong : ChangeSpec := { name := "natCmps", fn := fun _ => fun
  | [d1, d2] => { results := [.lit (.bool false)], args := [d1, d2] }
  | _ => none }
def NatCmpsWrongFalsely : Prop := natCmpsRow.holds Try.pinned (OpenSpec.ofChange natCmpsWrong)

/-- 'latchkeylaw01.NatDivs': WHATEVER THE INPUT: true; the input reads as it did. -/
def natDivsSpec : ChangeSpec := { name := "natDivs", fn := fun _ => fun
  | [d1, d2] => { results := [.lit (.bool true)], args := [d1, d2] }
  | _ => none }
def natDivsRow : OpenClaim := { program := "ytbnbofflnpppfaa", sum := "bb6374c6890c9cf7624b9030d68f0da1d872b5724f77329594e825799ee6d022", func := "latchkey/latchkeylaw01.NatDivs", spec := "natDivs", inPlace := ["math/bits.Add64", "math/bits.Sub64"], named := ["math/bits.divideError", "math/bits.overflowError"], apart := false }
def NatDivsSaid : Prop := natDivsRow.holds Try.pinned (OpenSpec.ofChange natDivsSpec)

/-- ITS FALSE NEIGHBOUR: 'it returns false'. Refute it at one input. -/
def natDivsWrong : ChangeSpec := { name := "natDivs", fn := fun _ => fun
  | [d1, d2] => { results := [.lit (.bool false)], args := [d1, d2] }
  | _ => none }
def NatDivsWrongFalsely : Prop := natDivsRow.holds Try.pinned (OpenSpec.ofChange natDivsWrong)

/-- 'latchkeylaw01.NatShifts': WHATEVER THE INPUT: true; the input reads as it did. -/
def natShiftsSpec : ChangeSpec := { name := "natShifts", fn := fun _ => fun
  | [d1, d2] => { results := [.lit (.bool true)], args := [d1, d2] }
  | _ => none }
def natShiftsRow : OpenClaim := { program := "ytbnbofflnpppfaa", sum := "bb6374c6890c9cf7624b9030d68f0da1d872b5724f77329594e825799ee6d022", func := "latchkey/latchkeylaw01.NatShifts", spec := "natShifts", inPlace := ["math/bits.Add64", "math/bits.Sub64"], named := ["math/bits.divideError", "math/bits.overflowError"], apart := false }
def NatShiftsSaid : Prop := natShiftsRow.holds Try.pinned (OpenSpec.ofChange natShiftsSpec)

/-- ITS FALSE NEIGHBOUR: 'it returns false'. Refute it at one input. -/
def natShiftsWrong : ChangeSpec := { name := "natShifts", fn := fun _ => fun
  | [d1, d2] => { results := [.lit (.bool false)], args := [d1, d2] }
  | _ => none }
def NatShiftsWrongFalsely : Prop := natShiftsRow.holds Try.pinned (OpenSpec.ofChange natShiftsWrong)

/-- 'latchkeylaw01.NatReads': WHATEVER THE INPUT: true; the input reads as it did. -/
def natReadsSpec : ChangeSpec := { name := "natReads", fn := fun _ => fun
  | [d] => { results := [.lit (.bool true)], args := [d] }
  | _ => none }
def natReadsRow : OpenClaim := { program := "ytbnbofflnpppfaa", sum := "bb6374c6890c9cf7624b9030d68f0da1d872b5724f77329594e825799ee6d022", func := "latchkey/latchkeylaw01.NatReads", spec := "natReads", inPlace := ["math/bits.Add64", "math/bits.Sub64"], named := ["math/bits.divideError", "math/bits.overflowError"], apart := false }
def NatReadsSaid : Prop := natReadsRow.holds Try.pinned (OpenSpec.ofChange natReadsSpec)

/-- ITS FALSE NEIGHBOUR: 'it returns false'. Refute it at one input. -/
def natReadsWrong : ChangeSpec := { name := "natReads", fn := fun _ => fun
  | [d] => { results := [.lit (.bool false)], args := [d] }
  | _ => none }
def NatReadsWrongFalsely : Prop := natReadsRow.holds Try.pinned (OpenSpec.ofChange natReadsWrong)

/-- 'latchkeylaw01.NatBytes': WHATEVER THE INPUT: true; the input reads as it did. -/
def natBytesSpec : ChangeSpec := { name := "natBytes", fn := fun _ => fun
  | [d1, d2] => { results := [.lit (.bool true)], args := [d1, d2] }
  | _ => none }
def natBytesRow : OpenClaim := { program := "ytbnbofflnpppfaa", sum := "bb6374c6890c9cf7624b9030d68f0da1d872b5724f77329594e825799ee6d022", func := "latchkey/latchkeylaw01.NatBytes", spec := "natBytes", inPlace := ["math/bits.Add64", "math/bits.Sub64"], named := ["math/bits.divideError", "math/bits.overflowError"], apart := false }
def NatBytesSaid : Prop := natBytesRow.holds Try.pinned (OpenSpec.ofChange natBytesSpec)

/-- ITS FALSE NEIGHBOUR: 'it returns false'. Refute it at one input. -/
def natBytesWrong : ChangeSpec := { name := "natBytes", fn := fun _ => fun
  | [d1, d2] => { results := [.lit (.bool false)], args := [d1, d2] }
  | _ => none }
def NatBytesWrongFalsely : Prop := natBytesRow.holds Try.pinned (OpenSpec.ofChange natBytesWrong)

/-- 'latchkeylaw01.NatTexts': WHATEVER THE INPUT: true; the input reads as it did. -/
def natTextsSpec : ChangeSpec := { name := "natTexts", fn := fun _ => fun
  | [d1, d2] => { results := [.lit (.bool true)], args := [d1, d2] }
  | _ => none }
def natTextsRow : OpenClaim := { program := "ytbnbofflnpppfaa", sum := "bb6374c6890c9cf7624b9030d68f0da1d872b5724f77329594e825799ee6d022", func := "latchkey/latchkeylaw01.NatTexts", spec := "natTexts", inPlace := ["math/bits.Add64", "math/bits.Sub64"], named := ["math/bits.divideError", "math/bits.overflowError"], apart := false }
def NatTextsSaid : Prop := natTextsRow.holds Try.pinned (OpenSpec.ofChange natTextsSpec)

/-- ITS FALSE NEIGHBOUR: 'it returns false'. Refute it at one input. -/
def natTextsWrong : ChangeSpec := { name := "natTexts", fn := fun _ => fun
  | [d1, d2] => { results := [.lit (.bool false)], args := [d1, d2] }
  | _ => none }
def NatTextsWrongFalsely : Prop := natTextsRow.holds Try.pinned (OpenSpec.ofChange natTextsWrong)

/-- 'latchkeylaw01.NatBits': WHATEVER THE INPUT: true; the input reads as it did. -/
def natBitsSpec : ChangeSpec := { name := "natBits", fn := fun _ => fun
  | [d1, d2] => { results := [.lit (.bool true)], args := [d1, d2] }
  | _ => none }
def natBitsRow : OpenClaim := { program := "ytbnbofflnpppfaa", sum := "bb6374c6890c9cf7624b9030d68f0da1d872b5724f77329594e825799ee6d022", func := "latchkey/latchkeylaw01.NatBits", spec := "natBits", inPlace := ["math/bits.Add64", "math/bits.Sub64"], unfollowed := true, recurses := true, named := ["math/bits.divideError", "math/bits.overflowError"], apart := false }
def NatBitsSaid : Prop := natBitsRow.holds Try.pinned (OpenSpec.ofChange natBitsSpec)

/-- ITS FALSE NEIGHBOUR: 'it returns false'. Refute it at one input. -/
def natBitsWrong : ChangeSpec := { name := "natBits", fn := fun _ => fun
  | [d1, d2] => { results := [.lit (.bool false)], args := [d1, d2] }
  | _ => none }
def NatBitsWrongFalsely : Prop := natBitsRow.holds Try.pinned (OpenSpec.ofChange natBitsWrong)

/-- 'latchkeylaw01.NatParts': WHATEVER THE INPUT: true; the input reads as it did. -/
def natPartsSpec : ChangeSpec := { name := "natParts", fn := fun _ => fun
  | [d1, d2] => { results := [.lit (.bool true)], args := [d1, d2] }
  | _ => none }
def natPartsRow : OpenClaim := { program := "ytbnbofflnpppfaa", sum := "bb6374c6890c9cf7624b9030d68f0da1d872b5724f77329594e825799ee6d022", func := "latchkey/latchkeylaw01.NatParts", spec := "natParts", inPlace := ["math/bits.Add64", "math/bits.Sub64"], named := ["math/bits.divideError", "math/bits.overflowError"], apart := false }
def NatPartsSaid : Prop := natPartsRow.holds Try.pinned (OpenSpec.ofChange natPartsSpec)

/-- ITS FALSE NEIGHBOUR: 'it returns false'. Refute it at one input. -/
def natPartsWrong : ChangeSpec := { name := "natParts", fn := fun _ => fun
  | [d1, d2] => { results := [.lit (.bool false)], args := [d1, d2] }
  | _ => none }
def NatPartsWrongFalsely : Prop := natPartsRow.holds Try.pinned (OpenSpec.ofChange natPartsWrong)

/-- 'latchkeylaw01.NatOrder': WHATEVER THE INPUT: true; the input reads as it did. -/
def natOrderSpec : ChangeSpec := { name := "natOrder", fn := fun _ => fun
  | [d1, d2, d3] => { results := [.lit (.bool true)], args := [d1, d2, d3] }
  | _ => none }
def natOrderRow : OpenClaim := { program := "ytbnbofflnpppfaa", sum := "bb6374c6890c9cf7624b9030d68f0da1d872b5724f77329594e825799ee6d022", func := "latchkey/latchkeylaw01.NatOrder", spec := "natOrder", inPlace := ["math/bits.Add64", "math/bits.Sub64"], named := ["math/bits.divideError", "math/bits.overflowError"], apart := false }
def NatOrderSaid : Prop := natOrderRow.holds Try.pinned (OpenSpec.ofChange natOrderSpec)

/-- ITS FALSE NEIGHBOUR: 'it returns false'. Refute it at one input. -/
def natOrderWrong : ChangeSpec := { name := "natOrder", fn := fun _ => fun
  | [d1, d2, d3] => { results := [.lit (.bool false)], args := [d1, d2, d3] }
  | _ => none }
def NatOrderWrongFalsely : Prop := natOrderRow.holds Try.pinned (OpenSpec.ofChange natOrderWrong)

/-- 'latchkeylaw01.NatMuls': WHATEVER THE INPUT: true; the input reads as it did. -/
def natMulsSpec : ChangeSpec := { name := "natMuls", fn := fun _ => fun
  | [d1, d2] => { results := [.lit (.bool true)], args := [d1, d2] }
  | _ => none }
def natMulsRow : OpenClaim := { program := "ytbnbofflnpppfaa", sum := "bb6374c6890c9cf7624b9030d68f0da1d872b5724f77329594e825799ee6d022", func := "latchkey/latchkeylaw01.NatMuls", spec := "natMuls", inPlace := ["math/bits.Add64", "math/bits.Sub64"], named := ["math/bits.divideError", "math/bits.overflowError"], apart := false }
def NatMulsSaid : Prop := natMulsRow.holds Try.pinned (OpenSpec.ofChange natMulsSpec)

/-- ITS FALSE NEIGHBOUR: 'it returns false'. Refute it at one input. -/
def natMulsWrong : ChangeSpec := { name := "natMuls", fn := fun _ => fun
  | [d1, d2] => { results := [.lit (.bool false)], args := [d1, d2] }
  | _ => none }
def NatMulsWrongFalsely : Prop := natMulsRow.holds Try.pinned (OpenSpec.ofChange natMulsWrong)

/-- 'latchkeylaw01.NatAdds': WHATEVER THE INPUT: true; the input reads as it did. -/
def natAddsSpec : ChangeSpec := { name := "natAdds", fn := fun _ => fun
  | [d1, d2] => { results := [.lit (.bool true)], args := [d1, d2] }
  | _ => none }
def natAddsRow : OpenClaim := { program := "ytbnbofflnpppfaa", sum := "bb6374c6890c9cf7624b9030d68f0da1d872b5724f77329594e825799ee6d022", func := "latchkey/latchkeylaw01.NatAdds", spec := "natAdds", inPlace := ["math/bits.Add64", "math/bits.Sub64"], named := ["math/bits.divideError", "math/bits.overflowError"], apart := false }
def NatAddsSaid : Prop := natAddsRow.holds Try.pinned (OpenSpec.ofChange natAddsSpec)

/-- ITS FALSE NEIGHBOUR: 'it returns false'. Refute it at one input. -/
def natAddsWrong : ChangeSpec := { name := "natAdds", fn := fun _ => fun
  | [d1, d2] => { results := [.lit (.bool false)], args := [d1, d2] }
  | _ => none }
def NatAddsWrongFalsely : Prop := natAddsRow.holds Try.pinned (OpenSpec.ofChange natAddsWrong)

/-- 'latchkeylaw01.NatBack': WHATEVER THE INPUT: true; the input reads as it did. -/
def natBackSpec : ChangeSpec := { name := "natBack", fn := fun _ => fun
  | [d1, d2] => { results := [.lit (.bool true)], args := [d1, d2] }
  | _ => none }
def natBackRow : OpenClaim := { program := "ytbnbofflnpppfaa", sum := "bb6374c6890c9cf7624b9030d68f0da1d872b5724f77329594e825799ee6d022", func := "latchkey/latchkeylaw01.NatBack", spec := "natBack", inPlace := ["math/bits.Add64", "math/bits.Sub64"], named := ["math/bits.divideError", "math/bits.overflowError"], apart := false }
def NatBackSaid : Prop := natBackRow.holds Try.pinned (OpenSpec.ofChange natBackSpec)

/-- ITS FALSE NEIGHBOUR: 'it returns false'. Refute it at one input. -/
def natBackWrong : ChangeSpec := { name := "natBack", fn := fun _ => fun
  | [d1, d2] => { results := [.lit (.bool false)], args := [d1, d2] }
  | _ => none }
def NatBackWrongFalsely : Prop := natBackRow.holds Try.pinned (OpenSpec.ofChange natBackWrong)

/-- 'latchkeylaw01.NatRing': WHATEVER THE INPUT: true; the input reads as it did. -/
def natRingSpec : ChangeSpec := { name := "natRing", fn := fun _ => fun
  | [d1, d2, d3] => { results := [.lit (.bool true)], args := [d1, d2, d3] }
  | _ => none }
def natRingRow : OpenClaim := { program := "ytbnbofflnpppfaa", sum := "bb6374c6890c9cf7624b9030d68f0da1d872b5724f77329594e825799ee6d022", func := "latchkey/latchkeylaw01.NatRing", spec := "natRing", inPlace := ["math/bits.Add64", "math/bits.Sub64"], named := ["math/bits.divideError", "math/bits.overflowError"], apart := false }
def NatRingSaid : Prop := natRingRow.holds Try.pinned (OpenSpec.ofChange natRingSpec)

/-- ITS FALSE NEIGHBOUR: 'it returns false'. Refute it at one input. -/
def natRingWrong : ChangeSpec := { name := "natRing", fn := fun _ => fun
  | [d1, d2, d3] => { results := [.lit (.bool false)], args := [d1, d2, d3] }
  | _ => none }
def NatRingWrongFalsely : Prop := natRingRow.holds Try.pinned (OpenSpec.ofChange natRingWrong)

/- THE SECOND FORM. 'bulk': how many values and letters a reading holds, each counted each time it is reached (what is shared counts as often as it is met; a slice's spare places count too). A statement '..UptoSaid' is the law's where the arguments, and the package variables that the reading takes, are together of bulk at most 1048576: NARROWER than '..Said'. Prove '..Said' where nothing that the law and all that it calls make is longer than what came in: it says more and counts as full. Else prove '..UptoSaid'. A law counts once. -/
mutual
def uptoBulk {H : Type} : DataW H → Nat
  | .lit (.string bytes) => bytes.length + 1
  | .lit _ => 1
  | .nil => 1
  | .ptr d => uptoBulk d + 1
  | .slice elems spare => uptoBulkAll elems + uptoBulkAll spare + 1
  | .agg parts => uptoBulkAll parts + 1
  | .iface _ d => uptoBulk d + 1
  | .map entries => uptoBulkEntries entries + 1
  | .held _ => 1
def uptoBulkAll {H : Type} : List (DataW H) → Nat
  | [] => 0
  | d :: r => uptoBulk d + uptoBulkAll r
def uptoBulkEntries {H : Type} : List (Lit × DataW H) → Nat
  | [] => 0
  | x :: r => uptoBulkEntry x + uptoBulkEntries r
def uptoBulkEntry {H : Type} : Lit × DataW H → Nat
  | (.string bytes, d) => bytes.length + uptoBulk d + 1
  | (_, d) => uptoBulk d + 1
 end
def uptoSmall : (H : Type) → List (DataW H) → Bool := fun _ ds => decide (uptoBulkAll ds ≤ 1048576)
def OpenSpec.upto (s : _root_.Go.ChangeSpec) : _root_.Go.OpenSpec := { _root_.Go.OpenSpec.ofChange s with cond := some uptoSmall }

/-- 'latchkeylaw01.NatNorms', WHERE WHAT IT READS IS OF BULK AT MOST 1048576: true; the input reads as it did. -/
def natNormsUptoRow : OpenClaim := { program := "ytbnbofflnpppfaa", sum := "bb6374c6890c9cf7624b9030d68f0da1d872b5724f77329594e825799ee6d022", func := "latchkey/latchkeylaw01.NatNorms", spec := "natNorms", inPlace := ["math/bits.Add64", "math/bits.Sub64"], named := ["math/bits.divideError", "math/bits.overflowError"], apart := false, narrowed := true }
def NatNormsUptoSaid : Prop := natNormsUptoRow.holds Try.pinned (OpenSpec.upto natNormsSpec)

/-- 'latchkeylaw01.NatCmps', WHERE WHAT IT READS IS OF BULK AT MOST 1048576: true; the input reads as it did. -/
def natCmpsUptoRow : OpenClaim := { program := "ytbnbofflnpppfaa", sum := "bb6374c6890c9cf7624b9030d68f0da1d872b5724f77329594e825799ee6d022", func := "latchkey/latchkeylaw01.NatCmps", spec := "natCmps", inPlace := ["math/bits.Add64", "math/bits.Sub64"], named := ["math/bits.divideError", "math/bits.overflowError"], apart := false, narrowed := true }
def NatCmpsUptoSaid : Prop := natCmpsUptoRow.holds Try.pinned (OpenSpec.upto natCmpsSpec)

/-- 'latchkeylaw01.NatDivs', WHERE WHAT IT READS IS OF BULK AT MOST 1048576: true; the input reads as it did. -/
def natDivsUptoRow : OpenClaim := { program := "ytbnbofflnpppfaa", sum := "bb6374c6890c9cf7624b9030d68f0da1d872b5724f77329594e825799ee6d022", func := "latchkey/latchkeylaw01.NatDivs", spec := "natDivs", inPlace := ["math/bits.Add64", "math/bits.Sub64"], named := ["math/bits.divideError", "math/bits.overflowError"], apart := false, narrowed := true }
def NatDivsUptoSaid : Prop := natDivsUptoRow.holds Try.pinned (OpenSpec.upto natDivsSpec)

/-- 'latchkeylaw01.NatShifts', WHERE WHAT IT READS IS OF BULK AT MOST 1048576: true; the input reads as it did. -/
def natShiftsUptoRow : OpenClaim := { program := "ytbnbofflnpppfaa", sum := "bb6374c6890c9cf7624b9030d68f0da1d872b5724f77329594e825799ee6d022", func := "latchkey/latchkeylaw01.NatShifts", spec := "natShifts", inPlace := ["math/bits.Add64", "math/bits.Sub64"], named := ["math/bits.divideError", "math/bits.overflowError"], apart := false, narrowed := true }
def NatShiftsUptoSaid : Prop := natShiftsUptoRow.holds Try.pinned (OpenSpec.upto natShiftsSpec)

/-- 'latchkeylaw01.NatReads', WHERE WHAT IT READS IS OF BULK AT MOST 1048576: true; the input reads as it did. -/
def natReadsUptoRow : OpenClaim := { program := "ytbnbofflnpppfaa", sum := "bb6374c6890c9cf7624b9030d68f0da1d872b5724f77329594e825799ee6d022", func := "latchkey/latchkeylaw01.NatReads", spec := "natReads", inPlace := ["math/bits.Add64", "math/bits.Sub64"], named := ["math/bits.divideError", "math/bits.overflowError"], apart := false, narrowed := true }
def NatReadsUptoSaid : Prop := natReadsUptoRow.holds Try.pinned (OpenSpec.upto natReadsSpec)

/-- 'latchkeylaw01.NatBytes', WHERE WHAT IT READS IS OF BULK AT MOST 1048576: true; the input reads as it did. -/
def natBytesUptoRow : OpenClaim := { program := "ytbnbofflnpppfaa", sum := "bb6374c6890c9cf7624b9030d68f0da1d872b5724f77329594e825799ee6d022", func := "latchkey/latchkeylaw01.NatBytes", spec := "natBytes", inPlace := ["math/bits.Add64", "math/bits.Sub64"], named := ["math/bits.divideError", "math/bits.overflowError"], apart := false, narrowed := true }
def NatBytesUptoSaid : Prop := natBytesUptoRow.holds Try.pinned (OpenSpec.upto natBytesSpec)

/-- 'latchkeylaw01.NatTexts', WHERE WHAT IT READS IS OF BULK AT MOST 1048576: true; the input reads as it did. -/
def natTextsUptoRow : OpenClaim := { program := "ytbnbofflnpppfaa", sum := "bb6374c6890c9cf7624b9030d68f0da1d872b5724f77329594e825799ee6d022", func := "latchkey/latchkeylaw01.NatTexts", spec := "natTexts", inPlace := ["math/bits.Add64", "math/bits.Sub64"], named := ["math/bits.divideError", "math/bits.overflowError"], apart := false, narrowed := true }
def NatTextsUptoSaid : Prop := natTextsUptoRow.holds Try.pinned (OpenSpec.upto natTextsSpec)

/-- 'latchkeylaw01.NatBits', WHERE WHAT IT READS IS OF BULK AT MOST 1048576: true; the input reads as it did. -/
def natBitsUptoRow : OpenClaim := { program := "ytbnbofflnpppfaa", sum := "bb6374c6890c9cf7624b9030d68f0da1d872b5724f77329594e825799ee6d022", func := "latchkey/latchkeylaw01.NatBits", spec := "natBits", inPlace := ["math/bits.Add64", "math/bits.Sub64"], unfollowed := true, recurses := true, named := ["math/bits.divideError", "math/bits.overflowError"], apart := false, narrowed := true }
def NatBitsUptoSaid : Prop := natBitsUptoRow.holds Try.pinned (OpenSpec.upto natBitsSpec)

/-- 'latchkeylaw01.NatParts', WHERE WHAT IT READS IS OF BULK AT MOST 1048576: true; the input reads as it did. -/
def natPartsUptoRow : OpenClaim := { program := "ytbnbofflnpppfaa", sum := "bb6374c6890c9cf7624b9030d68f0da1d872b5724f77329594e825799ee6d022", func := "latchkey/latchkeylaw01.NatParts", spec := "natParts", inPlace := ["math/bits.Add64", "math/bits.Sub64"], named := ["math/bits.divideError", "math/bits.overflowError"], apart := false, narrowed := true }
def NatPartsUptoSaid : Prop := natPartsUptoRow.holds Try.pinned (OpenSpec.upto natPartsSpec)

/-- 'latchkeylaw01.NatOrder', WHERE WHAT IT READS IS OF BULK AT MOST 1048576: true; the input reads as it did. -/
def natOrderUptoRow : OpenClaim := { program := "ytbnbofflnpppfaa", sum := "bb6374c6890c9cf7624b9030d68f0da1d872b5724f77329594e825799ee6d022", func := "latchkey/latchkeylaw01.NatOrder", spec := "natOrder", inPlace := ["math/bits.Add64", "math/bits.Sub64"], named := ["math/bits.divideError", "math/bits.overflowError"], apart := false, narrowed := true }
def NatOrderUptoSaid : Prop := natOrderUptoRow.holds Try.pinned (OpenSpec.upto natOrderSpec)

/-- 'latchkeylaw01.NatMuls', WHERE WHAT IT READS IS OF BULK AT MOST 1048576: true; the input reads as it did. -/
def natMulsUptoRow : OpenClaim := { program := "ytbnbofflnpppfaa", sum := "bb6374c6890c9cf7624b9030d68f0da1d872b5724f77329594e825799ee6d022", func := "latchkey/latchkeylaw01.NatMuls", spec := "natMuls", inPlace := ["math/bits.Add64", "math/bits.Sub64"], named := ["math/bits.divideError", "math/bits.overflowError"], apart := false, narrowed := true }
def NatMulsUptoSaid : Prop := natMulsUptoRow.holds Try.pinned (OpenSpec.upto natMulsSpec)

/-- 'latchkeylaw01.NatAdds', WHERE WHAT IT READS IS OF BULK AT MOST 1048576: true; the input reads as it did. -/
def natAddsUptoRow : OpenClaim := { program := "ytbnbofflnpppfaa", sum := "bb6374c6890c9cf7624b9030d68f0da1d872b5724f77329594e825799ee6d022", func := "latchkey/latchkeylaw01.NatAdds", spec := "natAdds", inPlace := ["math/bits.Add64", "math/bits.Sub64"], named := ["math/bits.divideError", "math/bits.overflowError"], apart := false, narrowed := true }
def NatAddsUptoSaid : Prop := natAddsUptoRow.holds Try.pinned (OpenSpec.upto natAddsSpec)

/-- 'latchkeylaw01.NatBack', WHERE WHAT IT READS IS OF BULK AT MOST 1048576: true; the input reads as it did. -/
def natBackUptoRow : OpenClaim := { program := "ytbnbofflnpppfaa", sum := "bb6374c6890c9cf7624b9030d68f0da1d872b5724f77329594e825799ee6d022", func := "latchkey/latchkeylaw01.NatBack", spec := "natBack", inPlace := ["math/bits.Add64", "math/bits.Sub64"], named := ["math/bits.divideError", "math/bits.overflowError"], apart := false, narrowed := true }
def NatBackUptoSaid : Prop := natBackUptoRow.holds Try.pinned (OpenSpec.upto natBackSpec)

/-- 'latchkeylaw01.NatRing', WHERE WHAT IT READS IS OF BULK AT MOST 1048576: true; the input reads as it did. -/
def natRingUptoRow : OpenClaim := { program := "ytbnbofflnpppfaa", sum := "bb6374c6890c9cf7624b9030d68f0da1d872b5724f77329594e825799ee6d022", func := "latchkey/latchkeylaw01.NatRing", spec := "natRing", inPlace := ["math/bits.Add64", "math/bits.Sub64"], named := ["math/bits.divideError", "math/bits.overflowError"], apart := false, narrowed := true }
def NatRingUptoSaid : Prop := natRingUptoRow.holds Try.pinned (OpenSpec.upto natRingSpec)

end Rows
end Go.Proofs.Ytbnbofflnpppfaa
