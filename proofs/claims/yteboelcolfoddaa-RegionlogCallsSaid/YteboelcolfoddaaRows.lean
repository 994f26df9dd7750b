/-
  No cell of these rows narrows 'for every input' (looked for: loops, veiled, ifaces, maps, wideKeys, modest, calm, conditions, laid).
  DERIVED. THE GIVEN ROWS OF THIS SEAT. 3 by the template 'for every input the law returns true; each argument reads behind the call as it read before'; 0 by the template 'total and deterministic' (their statements: YteboelcolfoddaaTotals.lean).
  GIVEN WITH THE SEED: the statements are not yours to turn. If you find one false, say at which input.
  Laid BY PROGRAM, IN A SANDBOX (cutbox-rows.mjs): the forced cells as the released guide's own fill.sh prints them over the translation 3932ba91a71b047c… (all of the seat's roots in one cut). By AI agents, Wed Nov 11 2026. No macro, syntax, notation, axiom, sorry.
-/
import Derived.Test.YteboelcolfoddaaChecked
import GoSem.Claim
import GoSem.ClaimJoined
import GoSem.ClaimMapViews
import Derived.JoinedTies
import Derived.KernelRfl
namespace Go.Proofs.Yteboelcolfoddaa
/- THE CELL 'sum', in the pinned program and in every row, IS THE sha256 OF THE DUMP (.gsa) THAT YteboelcolfoddaaProg.lean LOADS. Nothing in Lean hashes anything: it is a label: what it is worth is what the hold of that sum in a sandbox is worth. -/
noncomputable def Try.pinned : Pinned := { name := "yteboelcolfoddaa", sum := "3932ba91a71b047c25171cead5bec410a61a87712bca00b5889fd1c6a74c9cb3", checked := Try.checked }
namespace Rows
def none {H : Type} : Left H := { results := [], args := [] }

/-- 'volumegrouplaw20.RegionlogForms': WHATEVER THE INPUT: true; the input reads as it did. -/
def regionlogFormsSpec : ChangeSpec := { name := "regionlogForms", fn := fun _ => fun
  | [d1, d2, d3] => { results := [.lit (.bool true)], args := [d1, d2, d3] }
  | _ => none }
def regionlogFormsRow : OpenClaim := { program := "yteboelcolfoddaa", sum := "3932ba91a71b047c25171cead5bec410a61a87712bca00b5889fd1c6a74c9cb3", func := "volumegroup/volumegrouplaw20.RegionlogForms", spec := "regionlogForms", unfollowed := true, recurses := true, plainKeys := false, apart := false }
def RegionlogFormsSaid : Prop := regionlogFormsRow.holds Try.pinned (OpenSpec.ofChange regionlogFormsSpec)

/-- ITS FALSE NEIGHBOUR: 'it returns false'. Refute it at one input. -/
def regionlogFormsWrong : ChangeSpec := { name := "regionlogForms", fn := fun _ => fun
  | [d1, d2, d3] => { results := [.lit (.bool false)], args := [d1, d2, d3] }
  | _ => none }
def RegionlogFormsWrongFalsely : Prop := regionlogFormsRow.holds Try.pinned (OpenSpec.ofChange regionlogFormsWrong)

/-- 'volumegrouplaw20.RegionlogCalls': WHATEVER THE INPUT: true; the input reads as it did. -/
def regionlogCallsSpec : ChangeSpec := { name := "regionlogCalls", fn := fun _ => fun
  | [d] => { results := [.lit (.bool true)], args := [d] }
  | _ => none }
def regionlogCallsRow : OpenClaim := { program := "yteboelcolfoddaa", sum := "3932ba91a71b047c25171cead5bec410a61a87712bca00b5889fd1c6a74c9cb3", func := "volumegroup/volumegrouplaw20.RegionlogCalls", spec := "regionlogCalls", unfollowed := true, recurses := true, plainKeys := false, apart := false }
def RegionlogCallsSaid : Prop := regionlogCallsRow.holds Try.pinned (OpenSpec.ofChange regionlogCallsSpec)

/-- ITS FALSE NEIGHBOUR: 'it returns false'. Refute it at one input. -/
def regionlogCallsWrong : ChangeSpec := { name := "regionlogCalls", fn := fun _ => fun
  | [d] => { results := [.lit (.bool false)], args := [d] }
  | _ => none }
def RegionlogCallsWrongFalsely : Prop := regionlogCallsRow.holds Try.pinned (OpenSpec.ofChange regionlogCallsWrong)

/-- 'volumegrouplaw20.RegionlogCrash': WHATEVER THE INPUT: true; the input reads as it did. -/
def regionlogCrashSpec : ChangeSpec := { name := "regionlogCrash", fn := fun _ => fun
  | [d1, d2] => { results := [.lit (.bool true)], args := [d1, d2] }
  | _ => none }
def regionlogCrashRow : OpenClaim := { program := "yteboelcolfoddaa", sum := "3932ba91a71b047c25171cead5bec410a61a87712bca00b5889fd1c6a74c9cb3", func := "volumegroup/volumegrouplaw20.RegionlogCrash", spec := "regionlogCrash", unfollowed := true, recurses := true, plainKeys := false, apart := false }
def RegionlogCrashSaid : Prop := regionlogCrashRow.holds Try.pinned (OpenSpec.ofChange regionlogCrashSpec)

/-- ITS FALSE NEIGHBOUR: 'it returns false'. Refute it at one input. -/
def regionlogCrashWrong : ChangeSpec := { name := "regionlogCrash", fn := fun _ => fun
  | [d1, d2] => { results := [.lit (.bool false)], args := [d1, d2] }
  | _ => none }
def RegionlogCrashWrongFalsely : Prop := regionlogCrashRow.holds Try.pinned (OpenSpec.ofChange regionlogCrashWrong)

/- THE SECOND FORM. 'bulk': how many values and letters a reading holds, each counted each time it is reached (what is shared counts as often as it is met; a slice's spare places count too). A statement '..UptoSaid' is the law's where the arguments, and the package variables that the reading takes, are together of bulk at most 1048576: NARROWER than '..Said'. Prove '..Said' where nothing that the law and all that it calls make is longer than what came in: it says more and counts as full. Else prove '..UptoSaid'. A law counts once. -/
mutual
def uptoBulk {H : Type} : DataW H → Nat
  | .lit (.string bytes) => bytes.length + 1
  | .lit _ => 1
  | .nil => 1
  | .ptr d => uptoBulk d + 1
  | .slice elems spare => uptoBulkAll elems + uptoBulkAll spare + 1
  | .agg parts => uptoBulkAll parts + 1
  | .iface _ d => uptoBulk d + 1
  | .map entries => uptoBulkEntries entries + 1
  | .held _ => 1
def uptoBulkAll {H : Type} : List (DataW H) → Nat
  | [] => 0
  | d :: r => uptoBulk d + uptoBulkAll r
def uptoBulkEntries {H : Type} : List (Lit × DataW H) → Nat
  | [] => 0
  | x :: r => uptoBulkEntry x + uptoBulkEntries r
def uptoBulkEntry {H : Type} : Lit × DataW H → Nat
  | (.string bytes, d) => bytes.length + uptoBulk d + 1
  | (_, d) => uptoBulk d + 1
 end
def uptoSmall : (H : Type) → List (DataW H) → Bool := fun _ ds => decide (uptoBulkAll ds ≤ 1048576)
def OpenSpec.upto (s : _root_.Go.ChangeSpec) : _root_.Go.OpenSpec := { _root_.Go.OpenSpec.ofChange s with cond := some uptoSmall }

/-- 'volumegrouplaw20.RegionlogForms', WHERE WHAT IT READS IS OF BULK AT MOST 1048576: true; the input reads as it did. -/
def regionlogFormsUptoRow : OpenClaim := { program := "yteboelcolfoddaa", sum := "3932ba91a71b047c25171cead5bec410a61a87712bca00b5889fd1c6a74c9cb3", func := "volumegroup/volumegrouplaw20.RegionlogForms", spec := "regionlogForms", unfollowed := true, recurses := true, plainKeys := false, apart := false, narrowed := true }
def RegionlogFormsUptoSaid : Prop := regionlogFormsUptoRow.holds Try.pinned (OpenSpec.upto regionlogFormsSpec)

/-- 'volumegrouplaw20.RegionlogCalls', WHERE WHAT IT READS IS OF BULK AT MOST 1048576: true; the input reads as it did. -/
def regionlogCallsUptoRow : OpenClaim := { program := "yteboelcolfoddaa", sum := "3932ba91a71b047c25171cead5bec410a61a87712bca00b5889fd1c6a74c9cb3", func := "volumegroup/volumegrouplaw20.RegionlogCalls", spec := "regionlogCalls", unfollowed := true, recurses := true, plainKeys := false, apart := false, narrowed := true }
def RegionlogCallsUptoSaid : Prop := regionlogCallsUptoRow.holds Try.pinned (OpenSpec.upto regionlogCallsSpec)

/-- 'volumegrouplaw20.RegionlogCrash', WHERE WHAT IT READS IS OF BULK AT MOST 1048576: true; the input reads as it did. -/
def regionlogCrashUptoRow : OpenClaim := { program := "yteboelcolfoddaa", sum := "3932ba91a71b047c25171cead5bec410a61a87712bca00b5889fd1c6a74c9cb3", func := "volumegroup/volumegrouplaw20.RegionlogCrash", spec := "regionlogCrash", unfollowed := true, recurses := true, plainKeys := false, apart := false, narrowed := true }
def RegionlogCrashUptoSaid : Prop := regionlogCrashUptoRow.holds Try.pinned (OpenSpec.upto regionlogCrashSpec)

end Rows
end Go.Proofs.Yteboelcolfoddaa
