/-
  No cell of these rows narrows 'for every input' (looked for: loops, veiled, ifaces, maps, wideKeys, modest, calm, conditions, laid).
  DERIVED. THE GIVEN ROWS OF THIS SEAT. 7 by the template 'for every input the law returns true; each argument reads behind the call as it read before'; 0 by the template 'total and deterministic' (their statements: YtmoiepdpckpolaaGreatTotals.lean).
  GIVEN WITH THE SEED: the statements are not yours to turn. If you find one false, say at which input.
  Laid BY PROGRAM, IN A SANDBOX (cutbox-rows.mjs): the forced cells as the released guide's own fill.sh prints them over the translation 8a316fd2ed325ab7… (all of the seat's roots in one cut). By AI agents, Wed Nov 11 2026. No macro, syntax, notation, axiom, sorry.
-/
import Derived.Test.YtmoiepdpckpolaaGreatChecked
import GoSem.Claim
import GoSem.ClaimJoined
import GoSem.ClaimMapViews
import Derived.JoinedTies
import Derived.KernelRfl
namespace Go.Proofs.YtmoiepdpckpolaaGreat
/- THE CELL 'sum', in the pinned program and in every row, IS THE sha256 OF THE DUMP (.gsa) THAT YtmoiepdpckpolaaGreatProg.lean LOADS. Nothing in Lean hashes anything: it is a label: what it is worth is what the hold of that sum in a sandbox is worth. -/
noncomputable def Tryz.pinned : Pinned := { name := "ytmoiepdpckpolaagreat", sum := "8a316fd2ed325ab74201d8f0a8e13d3c7460a1a87af2d9e66b9798827f342e34", checked := Tryz.checked }
namespace Rows
def none {H : Type} : Left H := { results := [], args := [] }

/-- 'volumegrouplaw19.ParityvolSound': WHATEVER THE INPUT: true; the input reads as it did. -/
def parityvolSoundSpec : ChangeSpec := { name := "parityvolSound", fn := fun _ => fun
  | [d1, d2] => { results := [.lit (.bool true)], args := [d1, d2] }
  | _ => none }
def parityvolSoundRow : OpenClaim := { program := "ytmoiepdpckpolaagreat", sum := "8a316fd2ed325ab74201d8f0a8e13d3c7460a1a87af2d9e66b9798827f342e34", func := "volumegroup/volumegrouplaw19.ParityvolSound", spec := "parityvolSound", unfollowed := true, recurses := true, plainKeys := false, apart := false }
def ParityvolSoundSaid : Prop := parityvolSoundRow.holds Tryz.pinned (OpenSpec.ofChange parityvolSoundSpec)

/-- ITS FALSE NEIGHBOUR: 'it returns false'. Refute it at one input. -/
def parityvolSoundWrong : ChangeSpec := { name := "parityvolSound", fn := fun _ => fun
  | [d1, d2] => { results := [.lit (.bool false)], args := [d1, d2] }
  | _ => none }
def ParityvolSoundWrongFalsely : Prop := parityvolSoundRow.holds Tryz.pinned (OpenSpec.ofChange parityvolSoundWrong)

/-- 'volumegrouplaw19.ParityvolLost': WHATEVER THE INPUT: true; the input reads as it did. -/
def parityvolLostSpec : ChangeSpec := { name := "parityvolLost", fn := fun _ => fun
  | [d1, d2, d3, d4] => { results := [.lit (.bool true)], args := [d1, d2, d3, d4] }
  | _ => none }
def parityvolLostRow : OpenClaim := { program := "ytmoiepdpckpolaagreat", sum := "8a316fd2ed325ab74201d8f0a8e13d3c7460a1a87af2d9e66b9798827f342e34", func := "volumegroup/volumegrouplaw19.ParityvolLost", spec := "parityvolLost", unfollowed := true, recurses := true, plainKeys := false, apart := false }
def ParityvolLostSaid : Prop := parityvolLostRow.holds Tryz.pinned (OpenSpec.ofChange parityvolLostSpec)

/-- ITS FALSE NEIGHBOUR: 'it returns false'. Refute it at one input. -/
def parityvolLostWrong : ChangeSpec := { name := "parityvolLost", fn := fun _ => fun
  | [d1, d2, d3, d4] => { results := [.lit (.bool false)], args := [d1, d2, d3, d4] }
  | _ => none }
def ParityvolLostWrongFalsely : Prop := parityvolLostRow.holds Tryz.pinned (OpenSpec.ofChange parityvolLostWrong)

/-- 'volumegrouplaw19.ParityvolRows': WHATEVER THE INPUT: true; the input reads as it did. -/
def parityvolRowsSpec : ChangeSpec := { name := "parityvolRows", fn := fun _ => fun
  | [d1, d2] => { results := [.lit (.bool true)], args := [d1, d2] }
  | _ => none }
def parityvolRowsRow : OpenClaim := { program := "ytmoiepdpckpolaagreat", sum := "8a316fd2ed325ab74201d8f0a8e13d3c7460a1a87af2d9e66b9798827f342e34", func := "volumegroup/volumegrouplaw19.ParityvolRows", spec := "parityvolRows", unfollowed := true, recurses := true, plainKeys := false, apart := false }
def ParityvolRowsSaid : Prop := parityvolRowsRow.holds Tryz.pinned (OpenSpec.ofChange parityvolRowsSpec)

/-- ITS FALSE NEIGHBOUR: 'it returns false'. Refute it at one input. -/
def parityvolRowsWrong : ChangeSpec := { name := "parityvolRows", fn := fun _ => fun
  | [d1, d2] => { results := [.lit (.bool false)], args := [d1, d2] }
  | _ => none }
def ParityvolRowsWrongFalsely : Prop := parityvolRowsRow.holds Tryz.pinned (OpenSpec.ofChange parityvolRowsWrong)

/-- 'volumegrouplaw19.ParityvolBad': WHATEVER THE INPUT: true; the input reads as it did. -/
def parityvolBadSpec : ChangeSpec := { name := "parityvolBad", fn := fun _ => fun
  | [d1, d2, d3, d4] => { results := [.lit (.bool true)], args := [d1, d2, d3, d4] }
  | _ => none }
def parityvolBadRow : OpenClaim := { program := "ytmoiepdpckpolaagreat", sum := "8a316fd2ed325ab74201d8f0a8e13d3c7460a1a87af2d9e66b9798827f342e34", func := "volumegroup/volumegrouplaw19.ParityvolBad", spec := "parityvolBad", unfollowed := true, recurses := true, plainKeys := false, apart := false }
def ParityvolBadSaid : Prop := parityvolBadRow.holds Tryz.pinned (OpenSpec.ofChange parityvolBadSpec)

/-- ITS FALSE NEIGHBOUR: 'it returns false'. Refute it at one input. -/
def parityvolBadWrong : ChangeSpec := { name := "parityvolBad", fn := fun _ => fun
  | [d1, d2, d3, d4] => { results := [.lit (.bool false)], args := [d1, d2, d3, d4] }
  | _ => none }
def ParityvolBadWrongFalsely : Prop := parityvolBadRow.holds Tryz.pinned (OpenSpec.ofChange parityvolBadWrong)

/-- 'volumegrouplaw19.ParityvolErrors': WHATEVER THE INPUT: true; the input reads as it did. -/
def parityvolErrorsSpec : ChangeSpec := { name := "parityvolErrors", fn := fun _ => fun
  | [d1, d2, d3, d4] => { results := [.lit (.bool true)], args := [d1, d2, d3, d4] }
  | _ => none }
def parityvolErrorsRow : OpenClaim := { program := "ytmoiepdpckpolaagreat", sum := "8a316fd2ed325ab74201d8f0a8e13d3c7460a1a87af2d9e66b9798827f342e34", func := "volumegroup/volumegrouplaw19.ParityvolErrors", spec := "parityvolErrors", unfollowed := true, recurses := true, plainKeys := false, apart := false }
def ParityvolErrorsSaid : Prop := parityvolErrorsRow.holds Tryz.pinned (OpenSpec.ofChange parityvolErrorsSpec)

/-- ITS FALSE NEIGHBOUR: 'it returns false'. Refute it at one input. -/
def parityvolErrorsWrong : ChangeSpec := { name := "parityvolErrors", fn := fun _ => fun
  | [d1, d2, d3, d4] => { results := [.lit (.bool false)], args := [d1, d2, d3, d4] }
  | _ => none }
def ParityvolErrorsWrongFalsely : Prop := parityvolErrorsRow.holds Tryz.pinned (OpenSpec.ofChange parityvolErrorsWrong)

/-- 'volumegrouplaw19.ParityvolReturns': WHATEVER THE INPUT: true; the input reads as it did. -/
def parityvolReturnsSpec : ChangeSpec := { name := "parityvolReturns", fn := fun _ => fun
  | [d1, d2, d3, d4, d5, d6] => { results := [.lit (.bool true)], args := [d1, d2, d3, d4, d5, d6] }
  | _ => none }
def parityvolReturnsRow : OpenClaim := { program := "ytmoiepdpckpolaagreat", sum := "8a316fd2ed325ab74201d8f0a8e13d3c7460a1a87af2d9e66b9798827f342e34", func := "volumegroup/volumegrouplaw19.ParityvolReturns", spec := "parityvolReturns", unfollowed := true, recurses := true, plainKeys := false, apart := false }
def ParityvolReturnsSaid : Prop := parityvolReturnsRow.holds Tryz.pinned (OpenSpec.ofChange parityvolReturnsSpec)

/-- ITS FALSE NEIGHBOUR: 'it returns false'. Refute it at one input. -/
def parityvolReturnsWrong : ChangeSpec := { name := "parityvolReturns", fn := fun _ => fun
  | [d1, d2, d3, d4, d5, d6] => { results := [.lit (.bool false)], args := [d1, d2, d3, d4, d5, d6] }
  | _ => none }
def ParityvolReturnsWrongFalsely : Prop := parityvolReturnsRow.holds Tryz.pinned (OpenSpec.ofChange parityvolReturnsWrong)

/-- 'volumegrouplaw19.ParityvolScrubs': WHATEVER THE INPUT: true; the input reads as it did. -/
def parityvolScrubsSpec : ChangeSpec := { name := "parityvolScrubs", fn := fun _ => fun
  | [d1, d2, d3, d4, d5] => { results := [.lit (.bool true)], args := [d1, d2, d3, d4, d5] }
  | _ => none }
def parityvolScrubsRow : OpenClaim := { program := "ytmoiepdpckpolaagreat", sum := "8a316fd2ed325ab74201d8f0a8e13d3c7460a1a87af2d9e66b9798827f342e34", func := "volumegroup/volumegrouplaw19.ParityvolScrubs", spec := "parityvolScrubs", unfollowed := true, recurses := true, plainKeys := false, apart := false }
def ParityvolScrubsSaid : Prop := parityvolScrubsRow.holds Tryz.pinned (OpenSpec.ofChange parityvolScrubsSpec)

/-- ITS FALSE NEIGHBOUR: 'it returns false'. Refute it at one input. -/
def parityvolScrubsWrong : ChangeSpec := { name := "parityvolScrubs", fn := fun _ => fun
  | [d1, d2, d3, d4, d5] => { results := [.lit (.bool false)], args := [d1, d2, d3, d4, d5] }
  | _ => none }
def ParityvolScrubsWrongFalsely : Prop := parityvolScrubsRow.holds Tryz.pinned (OpenSpec.ofChange parityvolScrubsWrong)

/- THE SECOND FORM. 'bulk': how many values and letters a reading holds, each counted each time it is reached (what is shared counts as often as it is met; a slice's spare places count too). A statement '..UptoSaid' is the law's where the arguments, and the package variables that the reading takes, are together of bulk at most 1048576: NARROWER than '..Said'. Prove '..Said' where nothing that the law and all that it calls make is longer than what came in: it says more and counts as full. Else prove '..UptoSaid'. A law counts once. -/
mutual
def uptoBulk {H : Type} : DataW H → Nat
  | .lit (.string bytes) => bytes.length + 1
  | .lit _ => 1
  | .nil => 1
  | .ptr d => uptoBulk d + 1
  | .slice elems spare => uptoBulkAll elems + uptoBulkAll spare + 1
  | .agg parts => uptoBulkAll parts + 1
  | .iface _ d => uptoBulk d + 1
  | .map entries => uptoBulkEntries entries + 1
  | .held _ => 1
def uptoBulkAll {H : Type} : List (DataW H) → Nat
  | [] => 0
  | d :: r => uptoBulk d + uptoBulkAll r
def uptoBulkEntries {H : Type} : List (Lit × DataW H) → Nat
  | [] => 0
  | x :: r => uptoBulkEntry x + uptoBulkEntries r
def uptoBulkEntry {H : Type} : Lit × DataW H → Nat
  | (.string bytes, d) => bytes.length + uptoBulk d + 1
  | (_, d) => uptoBulk d + 1
 end
def uptoSmall : (H : Type) → List (DataW H) → Bool := fun _ ds => decide (uptoBulkAll ds ≤ 1048576)
def OpenSpec.upto (s : _root_.Go.ChangeSpec) : _root_.Go.OpenSpec := { _root_.Go.OpenSpec.ofChange s with cond := some uptoSmall }

/-- 'volumegrouplaw19.ParityvolSound', WHERE WHAT IT READS IS OF BULK AT MOST 1048576: true; the input reads as it did. -/
def parityvolSoundUptoRow : OpenClaim := { program := "ytmoiepdpckpolaagreat", sum := "8a316fd2ed325ab74201d8f0a8e13d3c7460a1a87af2d9e66b9798827f342e34", func := "volumegroup/volumegrouplaw19.ParityvolSound", spec := "parityvolSound", unfollowed := true, recurses := true, plainKeys := false, apart := false, narrowed := true }
def ParityvolSoundUptoSaid : Prop := parityvolSoundUptoRow.holds Tryz.pinned (OpenSpec.upto parityvolSoundSpec)

/-- 'volumegrouplaw19.ParityvolLost', WHERE WHAT IT READS IS OF BULK AT MOST 1048576: true; the input reads as it did. -/
def parityvolLostUptoRow : OpenClaim := { program := "ytmoiepdpckpolaagreat", sum := "8a316fd2ed325ab74201d8f0a8e13d3c7460a1a87af2d9e66b9798827f342e34", func := "volumegroup/volumegrouplaw19.ParityvolLost", spec := "parityvolLost", unfollowed := true, recurses := true, plainKeys := false, apart := false, narrowed := true }
def ParityvolLostUptoSaid : Prop := parityvolLostUptoRow.holds Tryz.pinned (OpenSpec.upto parityvolLostSpec)

/-- 'volumegrouplaw19.ParityvolRows', WHERE WHAT IT READS IS OF BULK AT MOST 1048576: true; the input reads as it did. -/
def parityvolRowsUptoRow : OpenClaim := { program := "ytmoiepdpckpolaagreat", sum := "8a316fd2ed325ab74201d8f0a8e13d3c7460a1a87af2d9e66b9798827f342e34", func := "volumegroup/volumegrouplaw19.ParityvolRows", spec := "parityvolRows", unfollowed := true, recurses := true, plainKeys := false, apart := false, narrowed := true }
def ParityvolRowsUptoSaid : Prop := parityvolRowsUptoRow.holds Tryz.pinned (OpenSpec.upto parityvolRowsSpec)

/-- 'volumegrouplaw19.ParityvolBad', WHERE WHAT IT READS IS OF BULK AT MOST 1048576: true; the input reads as it did. -/
def parityvolBadUptoRow : OpenClaim := { program := "ytmoiepdpckpolaagreat", sum := "8a316fd2ed325ab74201d8f0a8e13d3c7460a1a87af2d9e66b9798827f342e34", func := "volumegroup/volumegrouplaw19.ParityvolBad", spec := "parityvolBad", unfollowed := true, recurses := true, plainKeys := false, apart := false, narrowed := true }
def ParityvolBadUptoSaid : Prop := parityvolBadUptoRow.holds Tryz.pinned (OpenSpec.upto parityvolBadSpec)

/-- 'volumegrouplaw19.ParityvolErrors', WHERE WHAT IT READS IS OF BULK AT MOST 1048576: true; the input reads as it did. -/
def parityvolErrorsUptoRow : OpenClaim := { program := "ytmoiepdpckpolaagreat", sum := "8a316fd2ed325ab74201d8f0a8e13d3c7460a1a87af2d9e66b9798827f342e34", func := "volumegroup/volumegrouplaw19.ParityvolErrors", spec := "parityvolErrors", unfollowed := true, recurses := true, plainKeys := false, apart := false, narrowed := true }
def ParityvolErrorsUptoSaid : Prop := parityvolErrorsUptoRow.holds Tryz.pinned (OpenSpec.upto parityvolErrorsSpec)

/-- 'volumegrouplaw19.ParityvolReturns', WHERE WHAT IT READS IS OF BULK AT MOST 1048576: true; the input reads as it did. -/
def parityvolReturnsUptoRow : OpenClaim := { program := "ytmoiepdpckpolaagreat", sum := "8a316fd2ed325ab74201d8f0a8e13d3c7460a1a87af2d9e66b9798827f342e34", func := "volumegroup/volumegrouplaw19.ParityvolReturns", spec := "parityvolReturns", unfollowed := true, recurses := true, plainKeys := false, apart := false, narrowed := true }
def ParityvolReturnsUptoSaid : Prop := parityvolReturnsUptoRow.holds Tryz.pinned (OpenSpec.upto parityvolReturnsSpec)

/-- 'volumegrouplaw19.ParityvolScrubs', WHERE WHAT IT READS IS OF BULK AT MOST 1048576: true; the input reads as it did. -/
def parityvolScrubsUptoRow : OpenClaim := { program := "ytmoiepdpckpolaagreat", sum := "8a316fd2ed325ab74201d8f0a8e13d3c7460a1a87af2d9e66b9798827f342e34", func := "volumegroup/volumegrouplaw19.ParityvolScrubs", spec := "parityvolScrubs", unfollowed := true, recurses := true, plainKeys := false, apart := false, narrowed := true }
def ParityvolScrubsUptoSaid : Prop := parityvolScrubsUptoRow.holds Tryz.pinned (OpenSpec.upto parityvolScrubsSpec)

end Rows
end Go.Proofs.YtmoiepdpckpolaaGreat
