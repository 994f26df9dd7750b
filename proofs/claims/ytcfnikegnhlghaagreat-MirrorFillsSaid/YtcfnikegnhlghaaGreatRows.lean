/-
  No cell of these rows narrows 'for every input' (looked for: loops, veiled, ifaces, maps, wideKeys, modest, calm, conditions, laid).
  DERIVED. THE GIVEN ROWS OF THIS SEAT. 9 by the template 'for every input the law returns true; each argument reads behind the call as it read before'; 0 by the template 'total and deterministic' (their statements: YtcfnikegnhlghaaGreatTotals.lean).
  GIVEN WITH THE SEED: the statements are not yours to turn. If you find one false, say at which input.
  Laid BY PROGRAM, IN A SANDBOX (cutbox-rows.mjs): the forced cells as the released guide's own fill.sh prints them over the translation 322f5de9729dad21… (all of the seat's roots in one cut). By AI agents, Wed Nov 11 2026. No macro, syntax, notation, axiom, sorry.
-/
import Derived.Test.YtcfnikegnhlghaaGreatChecked
import GoSem.Claim
import GoSem.ClaimJoined
import GoSem.ClaimMapViews
import Derived.JoinedTies
import Derived.KernelRfl
namespace Go.Proofs.YtcfnikegnhlghaaGreat
/- THE CELL 'sum', in the pinned program and in every row, IS THE sha256 OF THE DUMP (.gsa) THAT YtcfnikegnhlghaaGreatProg.lean LOADS. Nothing in Lean hashes anything: it is a label: what it is worth is what the hold of that sum in a sandbox is worth. -/
noncomputable def Tryz.pinned : Pinned := { name := "ytcfnikegnhlghaagreat", sum := "322f5de9729dad21c37f1ebb5cca7ef8f90ca5bdcfafc78def251fed7ac348c1", checked := Tryz.checked }
namespace Rows
def none {H : Type} : Left H := { results := [], args := [] }

/-- 'volumegrouplaw21.MirrorLogs': WHATEVER THE INPUT: true; the input reads as it did. -/
def mirrorLogsSpec : ChangeSpec := { name := "mirrorLogs", fn := fun _ => fun
  | [d1, d2, d3] => { results := [.lit (.bool true)], args := [d1, d2, d3] }
  | _ => none }
def mirrorLogsRow : OpenClaim := { program := "ytcfnikegnhlghaagreat", sum := "322f5de9729dad21c37f1ebb5cca7ef8f90ca5bdcfafc78def251fed7ac348c1", func := "volumegroup/volumegrouplaw21.MirrorLogs", spec := "mirrorLogs", unfollowed := true, recurses := true, plainKeys := false, apart := false }
def MirrorLogsSaid : Prop := mirrorLogsRow.holds Tryz.pinned (OpenSpec.ofChange mirrorLogsSpec)

/-- ITS FALSE NEIGHBOUR: 'it returns false'. Refute it at one input. -/
def mirrorLogsWrong : ChangeSpec := { name := "mirrorLogs", fn := fun _ => fun
  | [d1, d2, d3] => { results := [.lit (.bool false)], args := [d1, d2, d3] }
  | _ => none }
def MirrorLogsWrongFalsely : Prop := mirrorLogsRow.holds Tryz.pinned (OpenSpec.ofChange mirrorLogsWrong)

/-- 'volumegrouplaw21.MirrorFlushed': WHATEVER THE INPUT: true; the input reads as it did. -/
def mirrorFlushedSpec : ChangeSpec := { name := "mirrorFlushed", fn := fun _ => fun
  | [d1, d2, d3] => { results := [.lit (.bool true)], args := [d1, d2, d3] }
  | _ => none }
def mirrorFlushedRow : OpenClaim := { program := "ytcfnikegnhlghaagreat", sum := "322f5de9729dad21c37f1ebb5cca7ef8f90ca5bdcfafc78def251fed7ac348c1", func := "volumegroup/volumegrouplaw21.MirrorFlushed", spec := "mirrorFlushed", unfollowed := true, recurses := true, plainKeys := false, apart := false }
def MirrorFlushedSaid : Prop := mirrorFlushedRow.holds Tryz.pinned (OpenSpec.ofChange mirrorFlushedSpec)

/-- ITS FALSE NEIGHBOUR: 'it returns false'. Refute it at one input. -/
def mirrorFlushedWrong : ChangeSpec := { name := "mirrorFlushed", fn := fun _ => fun
  | [d1, d2, d3] => { results := [.lit (.bool false)], args := [d1, d2, d3] }
  | _ => none }
def MirrorFlushedWrongFalsely : Prop := mirrorFlushedRow.holds Tryz.pinned (OpenSpec.ofChange mirrorFlushedWrong)

/-- 'volumegrouplaw21.MirrorUntouched': WHATEVER THE INPUT: true; the input reads as it did. -/
def mirrorUntouchedSpec : ChangeSpec := { name := "mirrorUntouched", fn := fun _ => fun
  | [d1, d2, d3, d4] => { results := [.lit (.bool true)], args := [d1, d2, d3, d4] }
  | _ => none }
def mirrorUntouchedRow : OpenClaim := { program := "ytcfnikegnhlghaagreat", sum := "322f5de9729dad21c37f1ebb5cca7ef8f90ca5bdcfafc78def251fed7ac348c1", func := "volumegroup/volumegrouplaw21.MirrorUntouched", spec := "mirrorUntouched", unfollowed := true, recurses := true, plainKeys := false, apart := false }
def MirrorUntouchedSaid : Prop := mirrorUntouchedRow.holds Tryz.pinned (OpenSpec.ofChange mirrorUntouchedSpec)

/-- ITS FALSE NEIGHBOUR: 'it returns false'. Refute it at one input. -/
def mirrorUntouchedWrong : ChangeSpec := { name := "mirrorUntouched", fn := fun _ => fun
  | [d1, d2, d3, d4] => { results := [.lit (.bool false)], args := [d1, d2, d3, d4] }
  | _ => none }
def MirrorUntouchedWrongFalsely : Prop := mirrorUntouchedRow.holds Tryz.pinned (OpenSpec.ofChange mirrorUntouchedWrong)

/-- 'volumegrouplaw21.MirrorSound': WHATEVER THE INPUT: true; the input reads as it did. -/
def mirrorSoundSpec : ChangeSpec := { name := "mirrorSound", fn := fun _ => fun
  | [d1, d2] => { results := [.lit (.bool true)], args := [d1, d2] }
  | _ => none }
def mirrorSoundRow : OpenClaim := { program := "ytcfnikegnhlghaagreat", sum := "322f5de9729dad21c37f1ebb5cca7ef8f90ca5bdcfafc78def251fed7ac348c1", func := "volumegroup/volumegrouplaw21.MirrorSound", spec := "mirrorSound", unfollowed := true, recurses := true, plainKeys := false, apart := false }
def MirrorSoundSaid : Prop := mirrorSoundRow.holds Tryz.pinned (OpenSpec.ofChange mirrorSoundSpec)

/-- ITS FALSE NEIGHBOUR: 'it returns false'. Refute it at one input. -/
def mirrorSoundWrong : ChangeSpec := { name := "mirrorSound", fn := fun _ => fun
  | [d1, d2] => { results := [.lit (.bool false)], args := [d1, d2] }
  | _ => none }
def MirrorSoundWrongFalsely : Prop := mirrorSoundRow.holds Tryz.pinned (OpenSpec.ofChange mirrorSoundWrong)

/-- 'volumegrouplaw21.MirrorLost': WHATEVER THE INPUT: true; the input reads as it did. -/
def mirrorLostSpec : ChangeSpec := { name := "mirrorLost", fn := fun _ => fun
  | [d1, d2, d3, d4] => { results := [.lit (.bool true)], args := [d1, d2, d3, d4] }
  | _ => none }
def mirrorLostRow : OpenClaim := { program := "ytcfnikegnhlghaagreat", sum := "322f5de9729dad21c37f1ebb5cca7ef8f90ca5bdcfafc78def251fed7ac348c1", func := "volumegroup/volumegrouplaw21.MirrorLost", spec := "mirrorLost", unfollowed := true, recurses := true, plainKeys := false, apart := false }
def MirrorLostSaid : Prop := mirrorLostRow.holds Tryz.pinned (OpenSpec.ofChange mirrorLostSpec)

/-- ITS FALSE NEIGHBOUR: 'it returns false'. Refute it at one input. -/
def mirrorLostWrong : ChangeSpec := { name := "mirrorLost", fn := fun _ => fun
  | [d1, d2, d3, d4] => { results := [.lit (.bool false)], args := [d1, d2, d3, d4] }
  | _ => none }
def MirrorLostWrongFalsely : Prop := mirrorLostRow.holds Tryz.pinned (OpenSpec.ofChange mirrorLostWrong)

/-- 'volumegrouplaw21.MirrorTwoLost': WHATEVER THE INPUT: true; the input reads as it did. -/
def mirrorTwoLostSpec : ChangeSpec := { name := "mirrorTwoLost", fn := fun _ => fun
  | [d1, d2, d3, d4, d5] => { results := [.lit (.bool true)], args := [d1, d2, d3, d4, d5] }
  | _ => none }
def mirrorTwoLostRow : OpenClaim := { program := "ytcfnikegnhlghaagreat", sum := "322f5de9729dad21c37f1ebb5cca7ef8f90ca5bdcfafc78def251fed7ac348c1", func := "volumegroup/volumegrouplaw21.MirrorTwoLost", spec := "mirrorTwoLost", unfollowed := true, recurses := true, plainKeys := false, apart := false }
def MirrorTwoLostSaid : Prop := mirrorTwoLostRow.holds Tryz.pinned (OpenSpec.ofChange mirrorTwoLostSpec)

/-- ITS FALSE NEIGHBOUR: 'it returns false'. Refute it at one input. -/
def mirrorTwoLostWrong : ChangeSpec := { name := "mirrorTwoLost", fn := fun _ => fun
  | [d1, d2, d3, d4, d5] => { results := [.lit (.bool false)], args := [d1, d2, d3, d4, d5] }
  | _ => none }
def MirrorTwoLostWrongFalsely : Prop := mirrorTwoLostRow.holds Tryz.pinned (OpenSpec.ofChange mirrorTwoLostWrong)

/-- 'volumegrouplaw21.MirrorBad': WHATEVER THE INPUT: true; the input reads as it did. -/
def mirrorBadSpec : ChangeSpec := { name := "mirrorBad", fn := fun _ => fun
  | [d1, d2, d3, d4] => { results := [.lit (.bool true)], args := [d1, d2, d3, d4] }
  | _ => none }
def mirrorBadRow : OpenClaim := { program := "ytcfnikegnhlghaagreat", sum := "322f5de9729dad21c37f1ebb5cca7ef8f90ca5bdcfafc78def251fed7ac348c1", func := "volumegroup/volumegrouplaw21.MirrorBad", spec := "mirrorBad", unfollowed := true, recurses := true, plainKeys := false, apart := false }
def MirrorBadSaid : Prop := mirrorBadRow.holds Tryz.pinned (OpenSpec.ofChange mirrorBadSpec)

/-- ITS FALSE NEIGHBOUR: 'it returns false'. Refute it at one input. -/
def mirrorBadWrong : ChangeSpec := { name := "mirrorBad", fn := fun _ => fun
  | [d1, d2, d3, d4] => { results := [.lit (.bool false)], args := [d1, d2, d3, d4] }
  | _ => none }
def MirrorBadWrongFalsely : Prop := mirrorBadRow.holds Tryz.pinned (OpenSpec.ofChange mirrorBadWrong)

/-- 'volumegrouplaw21.MirrorEqual': WHATEVER THE INPUT: true; the input reads as it did. -/
def mirrorEqualSpec : ChangeSpec := { name := "mirrorEqual", fn := fun _ => fun
  | [d1, d2, d3] => { results := [.lit (.bool true)], args := [d1, d2, d3] }
  | _ => none }
def mirrorEqualRow : OpenClaim := { program := "ytcfnikegnhlghaagreat", sum := "322f5de9729dad21c37f1ebb5cca7ef8f90ca5bdcfafc78def251fed7ac348c1", func := "volumegroup/volumegrouplaw21.MirrorEqual", spec := "mirrorEqual", unfollowed := true, recurses := true, plainKeys := false, apart := false }
def MirrorEqualSaid : Prop := mirrorEqualRow.holds Tryz.pinned (OpenSpec.ofChange mirrorEqualSpec)

/-- ITS FALSE NEIGHBOUR: 'it returns false'. Refute it at one input. -/
def mirrorEqualWrong : ChangeSpec := { name := "mirrorEqual", fn := fun _ => fun
  | [d1, d2, d3] => { results := [.lit (.bool false)], args := [d1, d2, d3] }
  | _ => none }
def MirrorEqualWrongFalsely : Prop := mirrorEqualRow.holds Tryz.pinned (OpenSpec.ofChange mirrorEqualWrong)

/-- 'volumegrouplaw21.MirrorFills': WHATEVER THE INPUT: true; the input reads as it did. -/
def mirrorFillsSpec : ChangeSpec := { name := "mirrorFills", fn := fun _ => fun
  | [d1, d2, d3, d4, d5, d6] => { results := [.lit (.bool true)], args := [d1, d2, d3, d4, d5, d6] }
  | _ => none }
def mirrorFillsRow : OpenClaim := { program := "ytcfnikegnhlghaagreat", sum := "322f5de9729dad21c37f1ebb5cca7ef8f90ca5bdcfafc78def251fed7ac348c1", func := "volumegroup/volumegrouplaw21.MirrorFills", spec := "mirrorFills", unfollowed := true, recurses := true, plainKeys := false, apart := false }
def MirrorFillsSaid : Prop := mirrorFillsRow.holds Tryz.pinned (OpenSpec.ofChange mirrorFillsSpec)

/-- ITS FALSE NEIGHBOUR: 'it returns false'. Refute it at one input. -/
def mirrorFillsWrong : ChangeSpec := { name := "mirrorFills", fn := fun _ => fun
  | [d1, d2, d3, d4, d5, d6] => { results := [.lit (.bool false)], args := [d1, d2, d3, d4, d5, d6] }
  | _ => none }
def MirrorFillsWrongFalsely : Prop := mirrorFillsRow.holds Tryz.pinned (OpenSpec.ofChange mirrorFillsWrong)

/- THE SECOND FORM. 'bulk': how many values and letters a reading holds, each counted each time it is reached (what is shared counts as often as it is met; a slice's spare places count too). A statement '..UptoSaid' is the law's where the arguments, and the package variables that the reading takes, are together of bulk at most 1048576: NARROWER than '..Said'. Prove '..Said' where nothing that the law and all that it calls make is longer than what came in: it says more and counts as full. Else prove '..UptoSaid'. A law counts once. -/
mutual
def uptoBulk {H : Type} : DataW H → Nat
  | .lit (.string bytes) => bytes.length + 1
  | .lit _ => 1
  | .nil => 1
  | .ptr d => uptoBulk d + 1
  | .slice elems spare => uptoBulkAll elems + uptoBulkAll spare + 1
  | .agg parts => uptoBulkAll parts + 1
  | .iface _ d => uptoBulk d + 1
  | .map entries => uptoBulkEntries entries + 1
  | .held _ => 1
def uptoBulkAll {H : Type} : List (DataW H) → Nat
  | [] => 0
  | d :: r => uptoBulk d + uptoBulkAll r
def uptoBulkEntries {H : Type} : List (Lit × DataW H) → Nat
  | [] => 0
  | x :: r => uptoBulkEntry x + uptoBulkEntries r
def uptoBulkEntry {H : Type} : Lit × DataW H → Nat
  | (.string bytes, d) => bytes.length + uptoBulk d + 1
  | (_, d) => uptoBulk d + 1
 end
def uptoSmall : (H : Type) → List (DataW H) → Bool := fun _ ds => decide (uptoBulkAll ds ≤ 1048576)
def OpenSpec.upto (s : _root_.Go.ChangeSpec) : _root_.Go.OpenSpec := { _root_.Go.OpenSpec.ofChange s with cond := some uptoSmall }

/-- 'volumegrouplaw21.MirrorLogs', WHERE WHAT IT READS IS OF BULK AT MOST 1048576: true; the input reads as it did. -/
def mirrorLogsUptoRow : OpenClaim := { program := "ytcfnikegnhlghaagreat", sum := "322f5de9729dad21c37f1ebb5cca7ef8f90ca5bdcfafc78def251fed7ac348c1", func := "volumegroup/volumegrouplaw21.MirrorLogs", spec := "mirrorLogs", unfollowed := true, recurses := true, plainKeys := false, apart := false, narrowed := true }
def MirrorLogsUptoSaid : Prop := mirrorLogsUptoRow.holds Tryz.pinned (OpenSpec.upto mirrorLogsSpec)

/-- 'volumegrouplaw21.MirrorFlushed', WHERE WHAT IT READS IS OF BULK AT MOST 1048576: true; the input reads as it did. -/
def mirrorFlushedUptoRow : OpenClaim := { program := "ytcfnikegnhlghaagreat", sum := "322f5de9729dad21c37f1ebb5cca7ef8f90ca5bdcfafc78def251fed7ac348c1", func := "volumegroup/volumegrouplaw21.MirrorFlushed", spec := "mirrorFlushed", unfollowed := true, recurses := true, plainKeys := false, apart := false, narrowed := true }
def MirrorFlushedUptoSaid : Prop := mirrorFlushedUptoRow.holds Tryz.pinned (OpenSpec.upto mirrorFlushedSpec)

/-- 'volumegrouplaw21.MirrorUntouched', WHERE WHAT IT READS IS OF BULK AT MOST 1048576: true; the input reads as it did. -/
def mirrorUntouchedUptoRow : OpenClaim := { program := "ytcfnikegnhlghaagreat", sum := "322f5de9729dad21c37f1ebb5cca7ef8f90ca5bdcfafc78def251fed7ac348c1", func := "volumegroup/volumegrouplaw21.MirrorUntouched", spec := "mirrorUntouched", unfollowed := true, recurses := true, plainKeys := false, apart := false, narrowed := true }
def MirrorUntouchedUptoSaid : Prop := mirrorUntouchedUptoRow.holds Tryz.pinned (OpenSpec.upto mirrorUntouchedSpec)

/-- 'volumegrouplaw21.MirrorSound', WHERE WHAT IT READS IS OF BULK AT MOST 1048576: true; the input reads as it did. -/
def mirrorSoundUptoRow : OpenClaim := { program := "ytcfnikegnhlghaagreat", sum := "322f5de9729dad21c37f1ebb5cca7ef8f90ca5bdcfafc78def251fed7ac348c1", func := "volumegroup/volumegrouplaw21.MirrorSound", spec := "mirrorSound", unfollowed := true, recurses := true, plainKeys := false, apart := false, narrowed := true }
def MirrorSoundUptoSaid : Prop := mirrorSoundUptoRow.holds Tryz.pinned (OpenSpec.upto mirrorSoundSpec)

/-- 'volumegrouplaw21.MirrorLost', WHERE WHAT IT READS IS OF BULK AT MOST 1048576: true; the input reads as it did. -/
def mirrorLostUptoRow : OpenClaim := { program := "ytcfnikegnhlghaagreat", sum := "322f5de9729dad21c37f1ebb5cca7ef8f90ca5bdcfafc78def251fed7ac348c1", func := "volumegroup/volumegrouplaw21.MirrorLost", spec := "mirrorLost", unfollowed := true, recurses := true, plainKeys := false, apart := false, narrowed := true }
def MirrorLostUptoSaid : Prop := mirrorLostUptoRow.holds Tryz.pinned (OpenSpec.upto mirrorLostSpec)

/-- 'volumegrouplaw21.MirrorTwoLost', WHERE WHAT IT READS IS OF BULK AT MOST 1048576: true; the input reads as it did. -/
def mirrorTwoLostUptoRow : OpenClaim := { program := "ytcfnikegnhlghaagreat", sum := "322f5de9729dad21c37f1ebb5cca7ef8f90ca5bdcfafc78def251fed7ac348c1", func := "volumegroup/volumegrouplaw21.MirrorTwoLost", spec := "mirrorTwoLost", unfollowed := true, recurses := true, plainKeys := false, apart := false, narrowed := true }
def MirrorTwoLostUptoSaid : Prop := mirrorTwoLostUptoRow.holds Tryz.pinned (OpenSpec.upto mirrorTwoLostSpec)

/-- 'volumegrouplaw21.MirrorBad', WHERE WHAT IT READS IS OF BULK AT MOST 1048576: true; the input reads as it did. -/
def mirrorBadUptoRow : OpenClaim := { program := "ytcfnikegnhlghaagreat", sum := "322f5de9729dad21c37f1ebb5cca7ef8f90ca5bdcfafc78def251fed7ac348c1", func := "volumegroup/volumegrouplaw21.MirrorBad", spec := "mirrorBad", unfollowed := true, recurses := true, plainKeys := false, apart := false, narrowed := true }
def MirrorBadUptoSaid : Prop := mirrorBadUptoRow.holds Tryz.pinned (OpenSpec.upto mirrorBadSpec)

/-- 'volumegrouplaw21.MirrorEqual', WHERE WHAT IT READS IS OF BULK AT MOST 1048576: true; the input reads as it did. -/
def mirrorEqualUptoRow : OpenClaim := { program := "ytcfnikegnhlghaagreat", sum := "322f5de9729dad21c37f1ebb5cca7ef8f90ca5bdcfafc78def251fed7ac348c1", func := "volumegroup/volumegrouplaw21.MirrorEqual", spec := "mirrorEqual", unfollowed := true, recurses := true, plainKeys := false, apart := false, narrowed := true }
def MirrorEqualUptoSaid : Prop := mirrorEqualUptoRow.holds Tryz.pinned (OpenSpec.upto mirrorEqualSpec)

/-- 'volumegrouplaw21.MirrorFills', WHERE WHAT IT READS IS OF BULK AT MOST 1048576: true; the input reads as it did. -/
def mirrorFillsUptoRow : OpenClaim := { program := "ytcfnikegnhlghaagreat", sum := "322f5de9729dad21c37f1ebb5cca7ef8f90ca5bdcfafc78def251fed7ac348c1", func := "volumegroup/volumegrouplaw21.MirrorFills", spec := "mirrorFills", unfollowed := true, recurses := true, plainKeys := false, apart := false, narrowed := true }
def MirrorFillsUptoSaid : Prop := mirrorFillsUptoRow.holds Tryz.pinned (OpenSpec.upto mirrorFillsSpec)

end Rows
end Go.Proofs.YtcfnikegnhlghaaGreat
