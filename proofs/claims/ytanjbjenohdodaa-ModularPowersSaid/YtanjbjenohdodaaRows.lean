/-
  No cell of these rows narrows 'for every input' (looked for: loops, veiled, ifaces, maps, wideKeys, modest, calm, conditions, laid).
  DERIVED. THE GIVEN ROWS OF THIS SEAT. 8 by the template 'for every input the law returns true; each argument reads behind the call as it read before'; 0 by the template 'total and deterministic' (their statements: YtanjbjenohdodaaTotals.lean).
  GIVEN WITH THE SEED: the statements are not yours to turn. If you find one false, say at which input.
  Laid BY PROGRAM, IN A SANDBOX (cutbox-rows.mjs): the forced cells as the released guide's own fill.sh prints them over the translation d9083a06244d4b7d… (all of the seat's roots in one cut). By AI agents, Wed Nov 11 2026. No macro, syntax, notation, axiom, sorry.
-/
import Derived.Test.YtanjbjenohdodaaChecked
import GoSem.Claim
import GoSem.ClaimJoined
import GoSem.ClaimMapViews
import Derived.JoinedTies
import Derived.KernelRfl
namespace Go.Proofs.Ytanjbjenohdodaa
/- THE CELL 'sum', in the pinned program and in every row, IS THE sha256 OF THE DUMP (.gsa) THAT YtanjbjenohdodaaProg.lean LOADS. Nothing in Lean hashes anything: it is a label: what it is worth is what the hold of that sum in a sandbox is worth. -/
noncomputable def Try.pinned : Pinned := { name := "ytanjbjenohdodaa", sum := "d9083a06244d4b7dd629c91be1cc849b5e3b7e7eb26570521babc18580d60719", checked := Try.checked }
namespace Rows
def none {H : Type} : Left H := { results := [], args := [] }

/-- 'latchkeylaw02.ModularSubs': WHATEVER THE INPUT: true; the input reads as it did. -/
def modularSubsSpec : ChangeSpec := { name := "modularSubs", fn := fun _ => fun
  | [d1, d2, d3] => { results := [.lit (.bool true)], args := [d1, d2, d3] }
  | _ => none }
def modularSubsRow : OpenClaim := { program := "ytanjbjenohdodaa", sum := "d9083a06244d4b7dd629c91be1cc849b5e3b7e7eb26570521babc18580d60719", func := "latchkey/latchkeylaw02.ModularSubs", spec := "modularSubs", inPlace := ["math/bits.Add64", "math/bits.Sub64"], unfollowed := true, recurses := true, named := ["math/bits.divideError", "math/bits.overflowError"], apart := false }
def ModularSubsSaid : Prop := modularSubsRow.holds Try.pinned (OpenSpec.ofChange modularSubsSpec)

/-- ITS FALSE NEIGHBOUR: 'it returns false'. Refute it at one input. -/
def modularSubsWrong : ChangeSpec := { name := "modularSubs", fn := fun _ => fun
  | [d1, d2, d3] => { results := [.lit (.bool false)], args := [d1, d2, d3] }
  | _ => none }
def ModularSubsWrongFalsely : Prop := modularSubsRow.holds Try.pinned (OpenSpec.ofChange modularSubsWrong)

/-- 'latchkeylaw02.ModularPows': WHATEVER THE INPUT: true; the input reads as it did. -/
def modularPowsSpec : ChangeSpec := { name := "modularPows", fn := fun _ => fun
  | [d1, d2, d3] => { results := [.lit (.bool true)], args := [d1, d2, d3] }
  | _ => none }
def modularPowsRow : OpenClaim := { program := "ytanjbjenohdodaa", sum := "d9083a06244d4b7dd629c91be1cc849b5e3b7e7eb26570521babc18580d60719", func := "latchkey/latchkeylaw02.ModularPows", spec := "modularPows", inPlace := ["math/bits.Add64", "math/bits.Sub64"], unfollowed := true, recurses := true, named := ["math/bits.divideError", "math/bits.overflowError"], apart := false }
def ModularPowsSaid : Prop := modularPowsRow.holds Try.pinned (OpenSpec.ofChange modularPowsSpec)

/-- ITS FALSE NEIGHBOUR: 'it returns false'. Refute it at one input. -/
def modularPowsWrong : ChangeSpec := { name := "modularPows", fn := fun _ => fun
  | [d1, d2, d3] => { results := [.lit (.bool false)], args := [d1, d2, d3] }
  | _ => none }
def ModularPowsWrongFalsely : Prop := modularPowsRow.holds Try.pinned (OpenSpec.ofChange modularPowsWrong)

/-- 'latchkeylaw02.ModularInvs': WHATEVER THE INPUT: true; the input reads as it did. -/
def modularInvsSpec : ChangeSpec := { name := "modularInvs", fn := fun _ => fun
  | [d1, d2] => { results := [.lit (.bool true)], args := [d1, d2] }
  | _ => none }
def modularInvsRow : OpenClaim := { program := "ytanjbjenohdodaa", sum := "d9083a06244d4b7dd629c91be1cc849b5e3b7e7eb26570521babc18580d60719", func := "latchkey/latchkeylaw02.ModularInvs", spec := "modularInvs", inPlace := ["math/bits.Add64", "math/bits.Sub64"], unfollowed := true, recurses := true, named := ["math/bits.divideError", "math/bits.overflowError"], apart := false }
def ModularInvsSaid : Prop := modularInvsRow.holds Try.pinned (OpenSpec.ofChange modularInvsSpec)

/-- ITS FALSE NEIGHBOUR: 'it returns false'. Refute it at one input. -/
def modularInvsWrong : ChangeSpec := { name := "modularInvs", fn := fun _ => fun
  | [d1, d2] => { results := [.lit (.bool false)], args := [d1, d2] }
  | _ => none }
def ModularInvsWrongFalsely : Prop := modularInvsRow.holds Try.pinned (OpenSpec.ofChange modularInvsWrong)

/-- 'latchkeylaw02.ModularPowers': WHATEVER THE INPUT: true; the input reads as it did. -/
def modularPowersSpec : ChangeSpec := { name := "modularPowers", fn := fun _ => fun
  | [d1, d2, d3, d4, d5] => { results := [.lit (.bool true)], args := [d1, d2, d3, d4, d5] }
  | _ => none }
def modularPowersRow : OpenClaim := { program := "ytanjbjenohdodaa", sum := "d9083a06244d4b7dd629c91be1cc849b5e3b7e7eb26570521babc18580d60719", func := "latchkey/latchkeylaw02.ModularPowers", spec := "modularPowers", inPlace := ["math/bits.Add64", "math/bits.Sub64"], unfollowed := true, recurses := true, named := ["math/bits.divideError", "math/bits.overflowError"], apart := false }
def ModularPowersSaid : Prop := modularPowersRow.holds Try.pinned (OpenSpec.ofChange modularPowersSpec)

/-- ITS FALSE NEIGHBOUR: 'it returns false'. Refute it at one input. -/
def modularPowersWrong : ChangeSpec := { name := "modularPowers", fn := fun _ => fun
  | [d1, d2, d3, d4, d5] => { results := [.lit (.bool false)], args := [d1, d2, d3, d4, d5] }
  | _ => none }
def ModularPowersWrongFalsely : Prop := modularPowersRow.holds Try.pinned (OpenSpec.ofChange modularPowersWrong)

/-- 'latchkeylaw02.ModularAlike': WHATEVER THE INPUT: true; the input reads as it did. -/
def modularAlikeSpec : ChangeSpec := { name := "modularAlike", fn := fun _ => fun
  | [d1, d2, d3, d4] => { results := [.lit (.bool true)], args := [d1, d2, d3, d4] }
  | _ => none }
def modularAlikeRow : OpenClaim := { program := "ytanjbjenohdodaa", sum := "d9083a06244d4b7dd629c91be1cc849b5e3b7e7eb26570521babc18580d60719", func := "latchkey/latchkeylaw02.ModularAlike", spec := "modularAlike", inPlace := ["math/bits.Add64", "math/bits.Sub64"], unfollowed := true, recurses := true, named := ["math/bits.divideError", "math/bits.overflowError"], apart := false }
def ModularAlikeSaid : Prop := modularAlikeRow.holds Try.pinned (OpenSpec.ofChange modularAlikeSpec)

/-- ITS FALSE NEIGHBOUR: 'it returns false'. Refute it at one input. -/
def modularAlikeWrong : ChangeSpec := { name := "modularAlike", fn := fun _ => fun
  | [d1, d2, d3, d4] => { results := [.lit (.bool false)], args := [d1, d2, d3, d4] }
  | _ => none }
def ModularAlikeWrongFalsely : Prop := modularAlikeRow.holds Try.pinned (OpenSpec.ofChange modularAlikeWrong)

/-- 'latchkeylaw02.ModularSums': WHATEVER THE INPUT: true; the input reads as it did. -/
def modularSumsSpec : ChangeSpec := { name := "modularSums", fn := fun _ => fun
  | [d1, d2, d3] => { results := [.lit (.bool true)], args := [d1, d2, d3] }
  | _ => none }
def modularSumsRow : OpenClaim := { program := "ytanjbjenohdodaa", sum := "d9083a06244d4b7dd629c91be1cc849b5e3b7e7eb26570521babc18580d60719", func := "latchkey/latchkeylaw02.ModularSums", spec := "modularSums", inPlace := ["math/bits.Add64", "math/bits.Sub64"], unfollowed := true, recurses := true, named := ["math/bits.divideError", "math/bits.overflowError"], apart := false }
def ModularSumsSaid : Prop := modularSumsRow.holds Try.pinned (OpenSpec.ofChange modularSumsSpec)

/-- ITS FALSE NEIGHBOUR: 'it returns false'. Refute it at one input. -/
def modularSumsWrong : ChangeSpec := { name := "modularSums", fn := fun _ => fun
  | [d1, d2, d3] => { results := [.lit (.bool false)], args := [d1, d2, d3] }
  | _ => none }
def ModularSumsWrongFalsely : Prop := modularSumsRow.holds Try.pinned (OpenSpec.ofChange modularSumsWrong)

/-- 'latchkeylaw02.ModularBack': WHATEVER THE INPUT: true; the input reads as it did. -/
def modularBackSpec : ChangeSpec := { name := "modularBack", fn := fun _ => fun
  | [d1, d2, d3] => { results := [.lit (.bool true)], args := [d1, d2, d3] }
  | _ => none }
def modularBackRow : OpenClaim := { program := "ytanjbjenohdodaa", sum := "d9083a06244d4b7dd629c91be1cc849b5e3b7e7eb26570521babc18580d60719", func := "latchkey/latchkeylaw02.ModularBack", spec := "modularBack", inPlace := ["math/bits.Add64", "math/bits.Sub64"], unfollowed := true, recurses := true, named := ["math/bits.divideError", "math/bits.overflowError"], apart := false }
def ModularBackSaid : Prop := modularBackRow.holds Try.pinned (OpenSpec.ofChange modularBackSpec)

/-- ITS FALSE NEIGHBOUR: 'it returns false'. Refute it at one input. -/
def modularBackWrong : ChangeSpec := { name := "modularBack", fn := fun _ => fun
  | [d1, d2, d3] => { results := [.lit (.bool false)], args := [d1, d2, d3] }
  | _ => none }
def ModularBackWrongFalsely : Prop := modularBackRow.holds Try.pinned (OpenSpec.ofChange modularBackWrong)

/-- 'latchkeylaw02.ModularSquares': WHATEVER THE INPUT: true; the input reads as it did. -/
def modularSquaresSpec : ChangeSpec := { name := "modularSquares", fn := fun _ => fun
  | [d1, d2, d3] => { results := [.lit (.bool true)], args := [d1, d2, d3] }
  | _ => none }
def modularSquaresRow : OpenClaim := { program := "ytanjbjenohdodaa", sum := "d9083a06244d4b7dd629c91be1cc849b5e3b7e7eb26570521babc18580d60719", func := "latchkey/latchkeylaw02.ModularSquares", spec := "modularSquares", inPlace := ["math/bits.Add64", "math/bits.Sub64"], unfollowed := true, recurses := true, named := ["math/bits.divideError", "math/bits.overflowError"], apart := false }
def ModularSquaresSaid : Prop := modularSquaresRow.holds Try.pinned (OpenSpec.ofChange modularSquaresSpec)

/-- ITS FALSE NEIGHBOUR: 'it returns false'. Refute it at one input. -/
def modularSquaresWrong : ChangeSpec := { name := "modularSquares", fn := fun _ => fun
  | [d1, d2, d3] => { results := [.lit (.bool false)], args := [d1, d2, d3] }
  | _ => none }
def ModularSquaresWrongFalsely : Prop := modularSquaresRow.holds Try.pinned (OpenSpec.ofChange modularSquaresWrong)

/- THE SECOND FORM. 'bulk': how many values and letters a reading holds, each counted each time it is reached (what is shared counts as often as it is met; a slice's spare places count too). A statement '..UptoSaid' is the law's where the arguments, and the package variables that the reading takes, are together of bulk at most 1048576: NARROWER than '..Said'. Prove '..Said' where nothing that the law and all that it calls make is longer than what came in: it says more and counts as full. Else prove '..UptoSaid'. A law counts once. -/
mutual
def uptoBulk {H : Type} : DataW H → Nat
  | .lit (.string bytes) => bytes.length + 1
  | .lit _ => 1
  | .nil => 1
  | .ptr d => uptoBulk d + 1
  | .slice elems spare => uptoBulkAll elems + uptoBulkAll spare + 1
  | .agg parts => uptoBulkAll parts + 1
  | .iface _ d => uptoBulk d + 1
  | .map entries => uptoBulkEntries entries + 1
  | .held _ => 1
def uptoBulkAll {H : Type} : List (DataW H) → Nat
  | [] => 0
  | d :: r => uptoBulk d + uptoBulkAll r
def uptoBulkEntries {H : Type} : List (Lit × DataW H) → Nat
  | [] => 0
  | x :: r => uptoBulkEntry x + uptoBulkEntries r
def uptoBulkEntry {H : Type} : Lit × DataW H → Nat
  | (.string bytes, d) => bytes.length + uptoBulk d + 1
  | (_, d) => uptoBulk d + 1
 end
def uptoSmall : (H : Type) → List (DataW H) → Bool := fun _ ds => decide (uptoBulkAll ds ≤ 1048576)
def OpenSpec.upto (s : _root_.Go.ChangeSpec) : _root_.Go.OpenSpec := { _root_.Go.OpenSpec.ofChange s with cond := some uptoSmall }

/-- 'latchkeylaw02.ModularSubs', WHERE WHAT IT READS IS OF BULK AT MOST 1048576: true; the input reads as it did. -/
def modularSubsUptoRow : OpenClaim := { program := "ytanjbjenohdodaa", sum := "d9083a06244d4b7dd629c91be1cc849b5e3b7e7eb26570521babc18580d60719", func := "latchkey/latchkeylaw02.ModularSubs", spec := "modularSubs", inPlace := ["math/bits.Add64", "math/bits.Sub64"], unfollowed := true, recurses := true, named := ["math/bits.divideError", "math/bits.overflowError"], apart := false, narrowed := true }
def ModularSubsUptoSaid : Prop := modularSubsUptoRow.holds Try.pinned (OpenSpec.upto modularSubsSpec)

/-- 'latchkeylaw02.ModularPows', WHERE WHAT IT READS IS OF BULK AT MOST 1048576: true; the input reads as it did. -/
def modularPowsUptoRow : OpenClaim := { program := "ytanjbjenohdodaa", sum := "d9083a06244d4b7dd629c91be1cc849b5e3b7e7eb26570521babc18580d60719", func := "latchkey/latchkeylaw02.ModularPows", spec := "modularPows", inPlace := ["math/bits.Add64", "math/bits.Sub64"], unfollowed := true, recurses := true, named := ["math/bits.divideError", "math/bits.overflowError"], apart := false, narrowed := true }
def ModularPowsUptoSaid : Prop := modularPowsUptoRow.holds Try.pinned (OpenSpec.upto modularPowsSpec)

/-- 'latchkeylaw02.ModularInvs', WHERE WHAT IT READS IS OF BULK AT MOST 1048576: true; the input reads as it did. -/
def modularInvsUptoRow : OpenClaim := { program := "ytanjbjenohdodaa", sum := "d9083a06244d4b7dd629c91be1cc849b5e3b7e7eb26570521babc18580d60719", func := "latchkey/latchkeylaw02.ModularInvs", spec := "modularInvs", inPlace := ["math/bits.Add64", "math/bits.Sub64"], unfollowed := true, recurses := true, named := ["math/bits.divideError", "math/bits.overflowError"], apart := false, narrowed := true }
def ModularInvsUptoSaid : Prop := modularInvsUptoRow.holds Try.pinned (OpenSpec.upto modularInvsSpec)

/-- 'latchkeylaw02.ModularPowers', WHERE WHAT IT READS IS OF BULK AT MOST 1048576: true; the input reads as it did. -/
def modularPowersUptoRow : OpenClaim := { program := "ytanjbjenohdodaa", sum := "d9083a06244d4b7dd629c91be1cc849b5e3b7e7eb26570521babc18580d60719", func := "latchkey/latchkeylaw02.ModularPowers", spec := "modularPowers", inPlace := ["math/bits.Add64", "math/bits.Sub64"], unfollowed := true, recurses := true, named := ["math/bits.divideError", "math/bits.overflowError"], apart := false, narrowed := true }
def ModularPowersUptoSaid : Prop := modularPowersUptoRow.holds Try.pinned (OpenSpec.upto modularPowersSpec)

/-- 'latchkeylaw02.ModularAlike', WHERE WHAT IT READS IS OF BULK AT MOST 1048576: true; the input reads as it did. -/
def modularAlikeUptoRow : OpenClaim := { program := "ytanjbjenohdodaa", sum := "d9083a06244d4b7dd629c91be1cc849b5e3b7e7eb26570521babc18580d60719", func := "latchkey/latchkeylaw02.ModularAlike", spec := "modularAlike", inPlace := ["math/bits.Add64", "math/bits.Sub64"], unfollowed := true, recurses := true, named := ["math/bits.divideError", "math/bits.overflowError"], apart := false, narrowed := true }
def ModularAlikeUptoSaid : Prop := modularAlikeUptoRow.holds Try.pinned (OpenSpec.upto modularAlikeSpec)

/-- 'latchkeylaw02.ModularSums', WHERE WHAT IT READS IS OF BULK AT MOST 1048576: true; the input reads as it did. -/
def modularSumsUptoRow : OpenClaim := { program := "ytanjbjenohdodaa", sum := "d9083a06244d4b7dd629c91be1cc849b5e3b7e7eb26570521babc18580d60719", func := "latchkey/latchkeylaw02.ModularSums", spec := "modularSums", inPlace := ["math/bits.Add64", "math/bits.Sub64"], unfollowed := true, recurses := true, named := ["math/bits.divideError", "math/bits.overflowError"], apart := false, narrowed := true }
def ModularSumsUptoSaid : Prop := modularSumsUptoRow.holds Try.pinned (OpenSpec.upto modularSumsSpec)

/-- 'latchkeylaw02.ModularBack', WHERE WHAT IT READS IS OF BULK AT MOST 1048576: true; the input reads as it did. -/
def modularBackUptoRow : OpenClaim := { program := "ytanjbjenohdodaa", sum := "d9083a06244d4b7dd629c91be1cc849b5e3b7e7eb26570521babc18580d60719", func := "latchkey/latchkeylaw02.ModularBack", spec := "modularBack", inPlace := ["math/bits.Add64", "math/bits.Sub64"], unfollowed := true, recurses := true, named := ["math/bits.divideError", "math/bits.overflowError"], apart := false, narrowed := true }
def ModularBackUptoSaid : Prop := modularBackUptoRow.holds Try.pinned (OpenSpec.upto modularBackSpec)

/-- 'latchkeylaw02.ModularSquares', WHERE WHAT IT READS IS OF BULK AT MOST 1048576: true; the input reads as it did. -/
def modularSquaresUptoRow : OpenClaim := { program := "ytanjbjenohdodaa", sum := "d9083a06244d4b7dd629c91be1cc849b5e3b7e7eb26570521babc18580d60719", func := "latchkey/latchkeylaw02.ModularSquares", spec := "modularSquares", inPlace := ["math/bits.Add64", "math/bits.Sub64"], unfollowed := true, recurses := true, named := ["math/bits.divideError", "math/bits.overflowError"], apart := false, narrowed := true }
def ModularSquaresUptoSaid : Prop := modularSquaresUptoRow.holds Try.pinned (OpenSpec.upto modularSquaresSpec)

end Rows
end Go.Proofs.Ytanjbjenohdodaa
