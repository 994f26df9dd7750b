/-
  No cell of these rows narrows 'for every input' (looked for: loops, veiled, ifaces, maps, wideKeys, modest, calm, conditions, laid).
  DERIVED. THE GIVEN ROWS OF THIS SEAT. 12 by the template 'for every input the law returns true; each argument reads behind the call as it read before'; 0 by the template 'total and deterministic' (their statements: YthgeeoahmjmnoaaTotals.lean).
  GIVEN WITH THE SEED: the statements are not yours to turn. If you find one false, say at which input.
  Laid BY PROGRAM, IN A SANDBOX (cutbox-rows.mjs): the forced cells as the released guide's own fill.sh prints them over the translation e030f30bc6b4eca7… (all of the seat's roots in one cut). By AI agents, Wed Nov 11 2026. No macro, syntax, notation, axiom, sorry.
-/
import Derived.Test.YthgeeoahmjmnoaaChecked
import GoSem.Claim
import GoSem.ClaimJoined
import GoSem.ClaimMapViews
import Derived.JoinedTies
import Derived.KernelRfl
namespace Go.Proofs.Ythgeeoahmjmnoaa
/- THE CELL 'sum', in the pinned program and in every row, IS THE sha256 OF THE DUMP (.gsa) THAT YthgeeoahmjmnoaaProg.lean LOADS. Nothing in Lean hashes anything: it is a label: what it is worth is what the hold of that sum in a sandbox is worth. -/
noncomputable def Try.pinned : Pinned := { name := "ythgeeoahmjmnoaa", sum := "e030f30bc6b4eca7317b2160d292b3fc88abf5f0de78171725055332bb929544", checked := Try.checked }
namespace Rows
def none {H : Type} : Left H := { results := [], args := [] }

/-- 'volumegrouplaw05.BlockNested': WHATEVER THE INPUT: true; the input reads as it did. -/
def blockNestedSpec : ChangeSpec := { name := "blockNested", fn := fun _ => fun
  | [d1, d2, d3, d4, d5, d6] => { results := [.lit (.bool true)], args := [d1, d2, d3, d4, d5, d6] }
  | _ => none }
def blockNestedRow : OpenClaim := { program := "ythgeeoahmjmnoaa", sum := "e030f30bc6b4eca7317b2160d292b3fc88abf5f0de78171725055332bb929544", func := "volumegroup/volumegrouplaw05.BlockNested", spec := "blockNested", unfollowed := true, recurses := true, plainKeys := false, apart := false }
def BlockNestedSaid : Prop := blockNestedRow.holds Try.pinned (OpenSpec.ofChange blockNestedSpec)

/-- ITS FALSE NEIGHBOUR: 'it returns false'. Refute it at one input. -/
def blockNestedWrong : ChangeSpec := { name := "blockNested", fn := fun _ => fun
  | [d1, d2, d3, d4, d5, d6] => { results := [.lit (.bool false)], args := [d1, d2, d3, d4, d5, d6] }
  | _ => none }
def BlockNestedWrongFalsely : Prop := blockNestedRow.holds Try.pinned (OpenSpec.ofChange blockNestedWrong)

/-- 'volumegrouplaw05.BlockReader': WHATEVER THE INPUT: true; the input reads as it did. -/
def blockReaderSpec : ChangeSpec := { name := "blockReader", fn := fun _ => fun
  | [d1, d2] => { results := [.lit (.bool true)], args := [d1, d2] }
  | _ => none }
def blockReaderRow : OpenClaim := { program := "ythgeeoahmjmnoaa", sum := "e030f30bc6b4eca7317b2160d292b3fc88abf5f0de78171725055332bb929544", func := "volumegroup/volumegrouplaw05.BlockReader", spec := "blockReader", unfollowed := true, recurses := true, plainKeys := false, apart := false }
def BlockReaderSaid : Prop := blockReaderRow.holds Try.pinned (OpenSpec.ofChange blockReaderSpec)

/-- ITS FALSE NEIGHBOUR: 'it returns false'. Refute it at one input. -/
def blockReaderWrong : ChangeSpec := { name := "blockReader", fn := fun _ => fun
  | [d1, d2] => { results := [.lit (.bool false)], args := [d1, d2] }
  | _ => none }
def BlockReaderWrongFalsely : Prop := blockReaderRow.holds Try.pinned (OpenSpec.ofChange blockReaderWrong)

/-- 'volumegrouplaw05.BlockEquals': WHATEVER THE INPUT: true; the input reads as it did. -/
def blockEqualsSpec : ChangeSpec := { name := "blockEquals", fn := fun _ => fun
  | [d1, d2, d3, d4] => { results := [.lit (.bool true)], args := [d1, d2, d3, d4] }
  | _ => none }
def blockEqualsRow : OpenClaim := { program := "ythgeeoahmjmnoaa", sum := "e030f30bc6b4eca7317b2160d292b3fc88abf5f0de78171725055332bb929544", func := "volumegroup/volumegrouplaw05.BlockEquals", spec := "blockEquals", unfollowed := true, recurses := true, plainKeys := false, apart := false }
def BlockEqualsSaid : Prop := blockEqualsRow.holds Try.pinned (OpenSpec.ofChange blockEqualsSpec)

/-- ITS FALSE NEIGHBOUR: 'it returns false'. Refute it at one input. -/
def blockEqualsWrong : ChangeSpec := { name := "blockEquals", fn := fun _ => fun
  | [d1, d2, d3, d4] => { results := [.lit (.bool false)], args := [d1, d2, d3, d4] }
  | _ => none }
def BlockEqualsWrongFalsely : Prop := blockEqualsRow.holds Try.pinned (OpenSpec.ofChange blockEqualsWrong)

/-- 'volumegrouplaw05.BlockRanges': WHATEVER THE INPUT: true; the input reads as it did. -/
def blockRangesSpec : ChangeSpec := { name := "blockRanges", fn := fun _ => fun
  | [d1, d2, d3, d4] => { results := [.lit (.bool true)], args := [d1, d2, d3, d4] }
  | _ => none }
def blockRangesRow : OpenClaim := { program := "ythgeeoahmjmnoaa", sum := "e030f30bc6b4eca7317b2160d292b3fc88abf5f0de78171725055332bb929544", func := "volumegroup/volumegrouplaw05.BlockRanges", spec := "blockRanges", unfollowed := true, recurses := true, plainKeys := false, apart := false }
def BlockRangesSaid : Prop := blockRangesRow.holds Try.pinned (OpenSpec.ofChange blockRangesSpec)

/-- ITS FALSE NEIGHBOUR: 'it returns false'. Refute it at one input. -/
def blockRangesWrong : ChangeSpec := { name := "blockRanges", fn := fun _ => fun
  | [d1, d2, d3, d4] => { results := [.lit (.bool false)], args := [d1, d2, d3, d4] }
  | _ => none }
def BlockRangesWrongFalsely : Prop := blockRangesRow.holds Try.pinned (OpenSpec.ofChange blockRangesWrong)

/-- 'volumegrouplaw05.BlockSound': WHATEVER THE INPUT: true; the input reads as it did. -/
def blockSoundSpec : ChangeSpec := { name := "blockSound", fn := fun _ => fun
  | [d1, d2] => { results := [.lit (.bool true)], args := [d1, d2] }
  | _ => none }
def blockSoundRow : OpenClaim := { program := "ythgeeoahmjmnoaa", sum := "e030f30bc6b4eca7317b2160d292b3fc88abf5f0de78171725055332bb929544", func := "volumegroup/volumegrouplaw05.BlockSound", spec := "blockSound", unfollowed := true, recurses := true, plainKeys := false, apart := false }
def BlockSoundSaid : Prop := blockSoundRow.holds Try.pinned (OpenSpec.ofChange blockSoundSpec)

/-- ITS FALSE NEIGHBOUR: 'it returns false'. Refute it at one input. -/
def blockSoundWrong : ChangeSpec := { name := "blockSound", fn := fun _ => fun
  | [d1, d2] => { results := [.lit (.bool false)], args := [d1, d2] }
  | _ => none }
def BlockSoundWrongFalsely : Prop := blockSoundRow.holds Try.pinned (OpenSpec.ofChange blockSoundWrong)

/-- 'volumegrouplaw05.BlockConcat': WHATEVER THE INPUT: true; the input reads as it did. -/
def blockConcatSpec : ChangeSpec := { name := "blockConcat", fn := fun _ => fun
  | [d1, d2, d3] => { results := [.lit (.bool true)], args := [d1, d2, d3] }
  | _ => none }
def blockConcatRow : OpenClaim := { program := "ythgeeoahmjmnoaa", sum := "e030f30bc6b4eca7317b2160d292b3fc88abf5f0de78171725055332bb929544", func := "volumegroup/volumegrouplaw05.BlockConcat", spec := "blockConcat", unfollowed := true, recurses := true, plainKeys := false, apart := false }
def BlockConcatSaid : Prop := blockConcatRow.holds Try.pinned (OpenSpec.ofChange blockConcatSpec)

/-- ITS FALSE NEIGHBOUR: 'it returns false'. Refute it at one input. -/
def blockConcatWrong : ChangeSpec := { name := "blockConcat", fn := fun _ => fun
  | [d1, d2, d3] => { results := [.lit (.bool false)], args := [d1, d2, d3] }
  | _ => none }
def BlockConcatWrongFalsely : Prop := blockConcatRow.holds Try.pinned (OpenSpec.ofChange blockConcatWrong)

/-- 'volumegrouplaw05.BlockCopies': WHATEVER THE INPUT: true; the input reads as it did. -/
def blockCopiesSpec : ChangeSpec := { name := "blockCopies", fn := fun _ => fun
  | [d1, d2, d3, d4] => { results := [.lit (.bool true)], args := [d1, d2, d3, d4] }
  | _ => none }
def blockCopiesRow : OpenClaim := { program := "ythgeeoahmjmnoaa", sum := "e030f30bc6b4eca7317b2160d292b3fc88abf5f0de78171725055332bb929544", func := "volumegroup/volumegrouplaw05.BlockCopies", spec := "blockCopies", unfollowed := true, recurses := true, plainKeys := false, apart := false }
def BlockCopiesSaid : Prop := blockCopiesRow.holds Try.pinned (OpenSpec.ofChange blockCopiesSpec)

/-- ITS FALSE NEIGHBOUR: 'it returns false'. Refute it at one input. -/
def blockCopiesWrong : ChangeSpec := { name := "blockCopies", fn := fun _ => fun
  | [d1, d2, d3, d4] => { results := [.lit (.bool false)], args := [d1, d2, d3, d4] }
  | _ => none }
def BlockCopiesWrongFalsely : Prop := blockCopiesRow.holds Try.pinned (OpenSpec.ofChange blockCopiesWrong)

/-- 'volumegrouplaw17.StripeSound': WHATEVER THE INPUT: true; the input reads as it did. -/
def stripeSoundSpec : ChangeSpec := { name := "stripeSound", fn := fun _ => fun
  | [d1, d2, d3] => { results := [.lit (.bool true)], args := [d1, d2, d3] }
  | _ => none }
def stripeSoundRow : OpenClaim := { program := "ythgeeoahmjmnoaa", sum := "e030f30bc6b4eca7317b2160d292b3fc88abf5f0de78171725055332bb929544", func := "volumegroup/volumegrouplaw17.StripeSound", spec := "stripeSound", unfollowed := true, recurses := true, plainKeys := false, apart := false }
def StripeSoundSaid : Prop := stripeSoundRow.holds Try.pinned (OpenSpec.ofChange stripeSoundSpec)

/-- ITS FALSE NEIGHBOUR: 'it returns false'. Refute it at one input. -/
def stripeSoundWrong : ChangeSpec := { name := "stripeSound", fn := fun _ => fun
  | [d1, d2, d3] => { results := [.lit (.bool false)], args := [d1, d2, d3] }
  | _ => none }
def StripeSoundWrongFalsely : Prop := stripeSoundRow.holds Try.pinned (OpenSpec.ofChange stripeSoundWrong)

/-- 'volumegrouplaw11.LabelBits': WHATEVER THE INPUT: true; the input reads as it did. -/
def labelBitsSpec : ChangeSpec := { name := "labelBits", fn := fun _ => fun
  | [d1, d2, d3] => { results := [.lit (.bool true)], args := [d1, d2, d3] }
  | _ => none }
def labelBitsRow : OpenClaim := { program := "ythgeeoahmjmnoaa", sum := "e030f30bc6b4eca7317b2160d292b3fc88abf5f0de78171725055332bb929544", func := "volumegroup/volumegrouplaw11.LabelBits", spec := "labelBits", unfollowed := true, recurses := true, plainKeys := false, apart := false }
def LabelBitsSaid : Prop := labelBitsRow.holds Try.pinned (OpenSpec.ofChange labelBitsSpec)

/-- ITS FALSE NEIGHBOUR: 'it returns false'. Refute it at one input. -/
def labelBitsWrong : ChangeSpec := { name := "labelBits", fn := fun _ => fun
  | [d1, d2, d3] => { results := [.lit (.bool false)], args := [d1, d2, d3] }
  | _ => none }
def LabelBitsWrongFalsely : Prop := labelBitsRow.holds Try.pinned (OpenSpec.ofChange labelBitsWrong)

/-- 'volumegrouplaw11.LabelWords': WHATEVER THE INPUT: true; the input reads as it did. -/
def labelWordsSpec : ChangeSpec := { name := "labelWords", fn := fun _ => fun
  | [d1, d2, d3, d4] => { results := [.lit (.bool true)], args := [d1, d2, d3, d4] }
  | _ => none }
def labelWordsRow : OpenClaim := { program := "ythgeeoahmjmnoaa", sum := "e030f30bc6b4eca7317b2160d292b3fc88abf5f0de78171725055332bb929544", func := "volumegroup/volumegrouplaw11.LabelWords", spec := "labelWords", unfollowed := true, recurses := true, plainKeys := false, apart := false }
def LabelWordsSaid : Prop := labelWordsRow.holds Try.pinned (OpenSpec.ofChange labelWordsSpec)

/-- ITS FALSE NEIGHBOUR: 'it returns false'. Refute it at one input. -/
def labelWordsWrong : ChangeSpec := { name := "labelWords", fn := fun _ => fun
  | [d1, d2, d3, d4] => { results := [.lit (.bool false)], args := [d1, d2, d3, d4] }
  | _ => none }
def LabelWordsWrongFalsely : Prop := labelWordsRow.holds Try.pinned (OpenSpec.ofChange labelWordsWrong)

/-- 'volumegrouplaw11.LabelCrash': WHATEVER THE INPUT: true; the input reads as it did. -/
def labelCrashSpec : ChangeSpec := { name := "labelCrash", fn := fun _ => fun
  | [d1, d2, d3, d4] => { results := [.lit (.bool true)], args := [d1, d2, d3, d4] }
  | _ => none }
def labelCrashRow : OpenClaim := { program := "ythgeeoahmjmnoaa", sum := "e030f30bc6b4eca7317b2160d292b3fc88abf5f0de78171725055332bb929544", func := "volumegroup/volumegrouplaw11.LabelCrash", spec := "labelCrash", unfollowed := true, recurses := true, plainKeys := false, apart := false }
def LabelCrashSaid : Prop := labelCrashRow.holds Try.pinned (OpenSpec.ofChange labelCrashSpec)

/-- ITS FALSE NEIGHBOUR: 'it returns false'. Refute it at one input. -/
def labelCrashWrong : ChangeSpec := { name := "labelCrash", fn := fun _ => fun
  | [d1, d2, d3, d4] => { results := [.lit (.bool false)], args := [d1, d2, d3, d4] }
  | _ => none }
def LabelCrashWrongFalsely : Prop := labelCrashRow.holds Try.pinned (OpenSpec.ofChange labelCrashWrong)

/-- 'volumegrouplaw11.LabelDevices': WHATEVER THE INPUT: true; the input reads as it did. -/
def labelDevicesSpec : ChangeSpec := { name := "labelDevices", fn := fun _ => fun
  | [d1, d2, d3] => { results := [.lit (.bool true)], args := [d1, d2, d3] }
  | _ => none }
def labelDevicesRow : OpenClaim := { program := "ythgeeoahmjmnoaa", sum := "e030f30bc6b4eca7317b2160d292b3fc88abf5f0de78171725055332bb929544", func := "volumegroup/volumegrouplaw11.LabelDevices", spec := "labelDevices", unfollowed := true, recurses := true, plainKeys := false, apart := false }
def LabelDevicesSaid : Prop := labelDevicesRow.holds Try.pinned (OpenSpec.ofChange labelDevicesSpec)

/-- ITS FALSE NEIGHBOUR: 'it returns false'. Refute it at one input. -/
def labelDevicesWrong : ChangeSpec := { name := "labelDevices", fn := fun _ => fun
  | [d1, d2, d3] => { results := [.lit (.bool false)], args := [d1, d2, d3] }
  | _ => none }
def LabelDevicesWrongFalsely : Prop := labelDevicesRow.holds Try.pinned (OpenSpec.ofChange labelDevicesWrong)

/- THE SECOND FORM. 'bulk': how many values and letters a reading holds, each counted each time it is reached (what is shared counts as often as it is met; a slice's spare places count too). A statement '..UptoSaid' is the law's where the arguments, and the package variables that the reading takes, are together of bulk at most 1048576: NARROWER than '..Said'. Prove '..Said' where nothing that the law and all that it calls make is longer than what came in: it says more and counts as full. Else prove '..UptoSaid'. A law counts once. -/
mutual
def uptoBulk {H : Type} : DataW H → Nat
  | .lit (.string bytes) => bytes.length + 1
  | .lit _ => 1
  | .nil => 1
  | .ptr d => uptoBulk d + 1
  | .slice elems spare => uptoBulkAll elems + uptoBulkAll spare + 1
  | .agg parts => uptoBulkAll parts + 1
  | .iface _ d => uptoBulk d + 1
  | .map entries => uptoBulkEntries entries + 1
  | .held _ => 1
def uptoBulkAll {H : Type} : List (DataW H) → Nat
  | [] => 0
  | d :: r => uptoBulk d + uptoBulkAll r
def uptoBulkEntries {H : Type} : List (Lit × DataW H) → Nat
  | [] => 0
  | x :: r => uptoBulkEntry x + uptoBulkEntries r
def uptoBulkEntry {H : Type} : Lit × DataW H → Nat
  | (.string bytes, d) => bytes.length + uptoBulk d + 1
  | (_, d) => uptoBulk d + 1
 end
def uptoSmall : (H : Type) → List (DataW H) → Bool := fun _ ds => decide (uptoBulkAll ds ≤ 1048576)
def OpenSpec.upto (s : _root_.Go.ChangeSpec) : _root_.Go.OpenSpec := { _root_.Go.OpenSpec.ofChange s with cond := some uptoSmall }

/-- 'volumegrouplaw05.BlockNested', WHERE WHAT IT READS IS OF BULK AT MOST 1048576: true; the input reads as it did. -/
def blockNestedUptoRow : OpenClaim := { program := "ythgeeoahmjmnoaa", sum := "e030f30bc6b4eca7317b2160d292b3fc88abf5f0de78171725055332bb929544", func := "volumegroup/volumegrouplaw05.BlockNested", spec := "blockNested", unfollowed := true, recurses := true, plainKeys := false, apart := false, narrowed := true }
def BlockNestedUptoSaid : Prop := blockNestedUptoRow.holds Try.pinned (OpenSpec.upto blockNestedSpec)

/-- 'volumegrouplaw05.BlockReader', WHERE WHAT IT READS IS OF BULK AT MOST 1048576: true; the input reads as it did. -/
def blockReaderUptoRow : OpenClaim := { program := "ythgeeoahmjmnoaa", sum := "e030f30bc6b4eca7317b2160d292b3fc88abf5f0de78171725055332bb929544", func := "volumegroup/volumegrouplaw05.BlockReader", spec := "blockReader", unfollowed := true, recurses := true, plainKeys := false, apart := false, narrowed := true }
def BlockReaderUptoSaid : Prop := blockReaderUptoRow.holds Try.pinned (OpenSpec.upto blockReaderSpec)

/-- 'volumegrouplaw05.BlockEquals', WHERE WHAT IT READS IS OF BULK AT MOST 1048576: true; the input reads as it did. -/
def blockEqualsUptoRow : OpenClaim := { program := "ythgeeoahmjmnoaa", sum := "e030f30bc6b4eca7317b2160d292b3fc88abf5f0de78171725055332bb929544", func := "volumegroup/volumegrouplaw05.BlockEquals", spec := "blockEquals", unfollowed := true, recurses := true, plainKeys := false, apart := false, narrowed := true }
def BlockEqualsUptoSaid : Prop := blockEqualsUptoRow.holds Try.pinned (OpenSpec.upto blockEqualsSpec)

/-- 'volumegrouplaw05.BlockRanges', WHERE WHAT IT READS IS OF BULK AT MOST 1048576: true; the input reads as it did. -/
def blockRangesUptoRow : OpenClaim := { program := "ythgeeoahmjmnoaa", sum := "e030f30bc6b4eca7317b2160d292b3fc88abf5f0de78171725055332bb929544", func := "volumegroup/volumegrouplaw05.BlockRanges", spec := "blockRanges", unfollowed := true, recurses := true, plainKeys := false, apart := false, narrowed := true }
def BlockRangesUptoSaid : Prop := blockRangesUptoRow.holds Try.pinned (OpenSpec.upto blockRangesSpec)

/-- 'volumegrouplaw05.BlockSound', WHERE WHAT IT READS IS OF BULK AT MOST 1048576: true; the input reads as it did. -/
def blockSoundUptoRow : OpenClaim := { program := "ythgeeoahmjmnoaa", sum := "e030f30bc6b4eca7317b2160d292b3fc88abf5f0de78171725055332bb929544", func := "volumegroup/volumegrouplaw05.BlockSound", spec := "blockSound", unfollowed := true, recurses := true, plainKeys := false, apart := false, narrowed := true }
def BlockSoundUptoSaid : Prop := blockSoundUptoRow.holds Try.pinned (OpenSpec.upto blockSoundSpec)

/-- 'volumegrouplaw05.BlockConcat', WHERE WHAT IT READS IS OF BULK AT MOST 1048576: true; the input reads as it did. -/
def blockConcatUptoRow : OpenClaim := { program := "ythgeeoahmjmnoaa", sum := "e030f30bc6b4eca7317b2160d292b3fc88abf5f0de78171725055332bb929544", func := "volumegroup/volumegrouplaw05.BlockConcat", spec := "blockConcat", unfollowed := true, recurses := true, plainKeys := false, apart := false, narrowed := true }
def BlockConcatUptoSaid : Prop := blockConcatUptoRow.holds Try.pinned (OpenSpec.upto blockConcatSpec)

/-- 'volumegrouplaw05.BlockCopies', WHERE WHAT IT READS IS OF BULK AT MOST 1048576: true; the input reads as it did. -/
def blockCopiesUptoRow : OpenClaim := { program := "ythgeeoahmjmnoaa", sum := "e030f30bc6b4eca7317b2160d292b3fc88abf5f0de78171725055332bb929544", func := "volumegroup/volumegrouplaw05.BlockCopies", spec := "blockCopies", unfollowed := true, recurses := true, plainKeys := false, apart := false, narrowed := true }
def BlockCopiesUptoSaid : Prop := blockCopiesUptoRow.holds Try.pinned (OpenSpec.upto blockCopiesSpec)

/-- 'volumegrouplaw17.StripeSound', WHERE WHAT IT READS IS OF BULK AT MOST 1048576: true; the input reads as it did. -/
def stripeSoundUptoRow : OpenClaim := { program := "ythgeeoahmjmnoaa", sum := "e030f30bc6b4eca7317b2160d292b3fc88abf5f0de78171725055332bb929544", func := "volumegroup/volumegrouplaw17.StripeSound", spec := "stripeSound", unfollowed := true, recurses := true, plainKeys := false, apart := false, narrowed := true }
def StripeSoundUptoSaid : Prop := stripeSoundUptoRow.holds Try.pinned (OpenSpec.upto stripeSoundSpec)

/-- 'volumegrouplaw11.LabelBits', WHERE WHAT IT READS IS OF BULK AT MOST 1048576: true; the input reads as it did. -/
def labelBitsUptoRow : OpenClaim := { program := "ythgeeoahmjmnoaa", sum := "e030f30bc6b4eca7317b2160d292b3fc88abf5f0de78171725055332bb929544", func := "volumegroup/volumegrouplaw11.LabelBits", spec := "labelBits", unfollowed := true, recurses := true, plainKeys := false, apart := false, narrowed := true }
def LabelBitsUptoSaid : Prop := labelBitsUptoRow.holds Try.pinned (OpenSpec.upto labelBitsSpec)

/-- 'volumegrouplaw11.LabelWords', WHERE WHAT IT READS IS OF BULK AT MOST 1048576: true; the input reads as it did. -/
def labelWordsUptoRow : OpenClaim := { program := "ythgeeoahmjmnoaa", sum := "e030f30bc6b4eca7317b2160d292b3fc88abf5f0de78171725055332bb929544", func := "volumegroup/volumegrouplaw11.LabelWords", spec := "labelWords", unfollowed := true, recurses := true, plainKeys := false, apart := false, narrowed := true }
def LabelWordsUptoSaid : Prop := labelWordsUptoRow.holds Try.pinned (OpenSpec.upto labelWordsSpec)

/-- 'volumegrouplaw11.LabelCrash', WHERE WHAT IT READS IS OF BULK AT MOST 1048576: true; the input reads as it did. -/
def labelCrashUptoRow : OpenClaim := { program := "ythgeeoahmjmnoaa", sum := "e030f30bc6b4eca7317b2160d292b3fc88abf5f0de78171725055332bb929544", func := "volumegroup/volumegrouplaw11.LabelCrash", spec := "labelCrash", unfollowed := true, recurses := true, plainKeys := false, apart := false, narrowed := true }
def LabelCrashUptoSaid : Prop := labelCrashUptoRow.holds Try.pinned (OpenSpec.upto labelCrashSpec)

/-- 'volumegrouplaw11.LabelDevices', WHERE WHAT IT READS IS OF BULK AT MOST 1048576: true; the input reads as it did. -/
def labelDevicesUptoRow : OpenClaim := { program := "ythgeeoahmjmnoaa", sum := "e030f30bc6b4eca7317b2160d292b3fc88abf5f0de78171725055332bb929544", func := "volumegroup/volumegrouplaw11.LabelDevices", spec := "labelDevices", unfollowed := true, recurses := true, plainKeys := false, apart := false, narrowed := true }
def LabelDevicesUptoSaid : Prop := labelDevicesUptoRow.holds Try.pinned (OpenSpec.upto labelDevicesSpec)

end Rows
end Go.Proofs.Ythgeeoahmjmnoaa
