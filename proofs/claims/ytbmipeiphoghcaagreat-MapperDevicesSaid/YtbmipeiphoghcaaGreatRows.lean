/-
  No cell of these rows narrows 'for every input' (looked for: loops, veiled, ifaces, maps, wideKeys, modest, calm, conditions, laid).
  DERIVED. THE GIVEN ROWS OF THIS SEAT. 3 by the template 'for every input the law returns true; each argument reads behind the call as it read before'; 0 by the template 'total and deterministic' (their statements: YtbmipeiphoghcaaGreatTotals.lean).
  GIVEN WITH THE SEED: the statements are not yours to turn. If you find one false, say at which input.
  Laid BY PROGRAM, IN A SANDBOX (cutbox-rows.mjs): the forced cells as the released guide's own fill.sh prints them over the translation 56d43c1f4c36f680… (all of the seat's roots in one cut). By AI agents, Wed Nov 11 2026. No macro, syntax, notation, axiom, sorry.
-/
import Derived.Test.YtbmipeiphoghcaaGreatChecked
import GoSem.Claim
import GoSem.ClaimJoined
import GoSem.ClaimMapViews
import Derived.JoinedTies
import Derived.KernelRfl
namespace Go.Proofs.YtbmipeiphoghcaaGreat
/- THE CELL 'sum', in the pinned program and in every row, IS THE sha256 OF THE DUMP (.gsa) THAT YtbmipeiphoghcaaGreatProg.lean LOADS. Nothing in Lean hashes anything: it is a label: what it is worth is what the hold of that sum in a sandbox is worth. -/
noncomputable def Tryz.pinned : Pinned := { name := "ytbmipeiphoghcaagreat", sum := "56d43c1f4c36f6806e6295f69468589c6dd78944e9b7f88f49e817e639df5ec0", checked := Tryz.checked }
namespace Rows
def none {H : Type} : Left H := { results := [], args := [] }

/-- 'volumegrouplaw23.MapperDevices': WHATEVER THE INPUT: true; the input reads as it did. -/
def mapperDevicesSpec : ChangeSpec := { name := "mapperDevices", fn := fun _ => fun
  | [d] => { results := [.lit (.bool true)], args := [d] }
  | _ => none }
def mapperDevicesRow : OpenClaim := { program := "ytbmipeiphoghcaagreat", sum := "56d43c1f4c36f6806e6295f69468589c6dd78944e9b7f88f49e817e639df5ec0", func := "volumegroup/volumegrouplaw23.MapperDevices", spec := "mapperDevices", unfollowed := true, recurses := true, plainKeys := false, apart := false }
def MapperDevicesSaid : Prop := mapperDevicesRow.holds Tryz.pinned (OpenSpec.ofChange mapperDevicesSpec)

/-- ITS FALSE NEIGHBOUR: 'it returns false'. Refute it at one input. -/
def mapperDevicesWrong : ChangeSpec := { name := "mapperDevices", fn := fun _ => fun
  | [d] => { results := [.lit (.bool false)], args := [d] }
  | _ => none }
def MapperDevicesWrongFalsely : Prop := mapperDevicesRow.holds Tryz.pinned (OpenSpec.ofChange mapperDevicesWrong)

/-- 'volumegrouplaw23.MapperRaw': WHATEVER THE INPUT: true; the input reads as it did. -/
def mapperRawSpec : ChangeSpec := { name := "mapperRaw", fn := fun _ => fun
  | [d] => { results := [.lit (.bool true)], args := [d] }
  | _ => none }
def mapperRawRow : OpenClaim := { program := "ytbmipeiphoghcaagreat", sum := "56d43c1f4c36f6806e6295f69468589c6dd78944e9b7f88f49e817e639df5ec0", func := "volumegroup/volumegrouplaw23.MapperRaw", spec := "mapperRaw", unfollowed := true, recurses := true, plainKeys := false, apart := false }
def MapperRawSaid : Prop := mapperRawRow.holds Tryz.pinned (OpenSpec.ofChange mapperRawSpec)

/-- ITS FALSE NEIGHBOUR: 'it returns false'. Refute it at one input. -/
def mapperRawWrong : ChangeSpec := { name := "mapperRaw", fn := fun _ => fun
  | [d] => { results := [.lit (.bool false)], args := [d] }
  | _ => none }
def MapperRawWrongFalsely : Prop := mapperRawRow.holds Tryz.pinned (OpenSpec.ofChange mapperRawWrong)

/-- 'volumegrouplaw23.MapperCalls': WHATEVER THE INPUT: true; the input reads as it did. -/
def mapperCallsSpec : ChangeSpec := { name := "mapperCalls", fn := fun _ => fun
  | [d] => { results := [.lit (.bool true)], args := [d] }
  | _ => none }
def mapperCallsRow : OpenClaim := { program := "ytbmipeiphoghcaagreat", sum := "56d43c1f4c36f6806e6295f69468589c6dd78944e9b7f88f49e817e639df5ec0", func := "volumegroup/volumegrouplaw23.MapperCalls", spec := "mapperCalls", unfollowed := true, recurses := true, plainKeys := false, apart := false }
def MapperCallsSaid : Prop := mapperCallsRow.holds Tryz.pinned (OpenSpec.ofChange mapperCallsSpec)

/-- ITS FALSE NEIGHBOUR: 'it returns false'. Refute it at one input. -/
def mapperCallsWrong : ChangeSpec := { name := "mapperCalls", fn := fun _ => fun
  | [d] => { results := [.lit (.bool false)], args := [d] }
  | _ => none }
def MapperCallsWrongFalsely : Prop := mapperCallsRow.holds Tryz.pinned (OpenSpec.ofChange mapperCallsWrong)

/- THE SECOND FORM. 'bulk': how many values and letters a reading holds, each counted each time it is reached (what is shared counts as often as it is met; a slice's spare places count too). A statement '..UptoSaid' is the law's where the arguments, and the package variables that the reading takes, are together of bulk at most 1048576: NARROWER than '..Said'. Prove '..Said' where nothing that the law and all that it calls make is longer than what came in: it says more and counts as full. Else prove '..UptoSaid'. A law counts once. -/
mutual
def uptoBulk {H : Type} : DataW H → Nat
  | .lit (.string bytes) => bytes.length + 1
  | .lit _ => 1
  | .nil => 1
  | .ptr d => uptoBulk d + 1
  | .slice elems spare => uptoBulkAll elems + uptoBulkAll spare + 1
  | .agg parts => uptoBulkAll parts + 1
  | .iface _ d => uptoBulk d + 1
  | .map entries => uptoBulkEntries entries + 1
  | .held _ => 1
def uptoBulkAll {H : Type} : List (DataW H) → Nat
  | [] => 0
  | d :: r => uptoBulk d + uptoBulkAll r
def uptoBulkEntries {H : Type} : List (Lit × DataW H) → Nat
  | [] => 0
  | x :: r => uptoBulkEntry x + uptoBulkEntries r
def uptoBulkEntry {H : Type} : Lit × DataW H → Nat
  | (.string bytes, d) => bytes.length + uptoBulk d + 1
  | (_, d) => uptoBulk d + 1
 end
def uptoSmall : (H : Type) → List (DataW H) → Bool := fun _ ds => decide (uptoBulkAll ds ≤ 1048576)
def OpenSpec.upto (s : _root_.Go.ChangeSpec) : _root_.Go.OpenSpec := { _root_.Go.OpenSpec.ofChange s with cond := some uptoSmall }

/-- 'volumegrouplaw23.MapperDevices', WHERE WHAT IT READS IS OF BULK AT MOST 1048576: true; the input reads as it did. -/
def mapperDevicesUptoRow : OpenClaim := { program := "ytbmipeiphoghcaagreat", sum := "56d43c1f4c36f6806e6295f69468589c6dd78944e9b7f88f49e817e639df5ec0", func := "volumegroup/volumegrouplaw23.MapperDevices", spec := "mapperDevices", unfollowed := true, recurses := true, plainKeys := false, apart := false, narrowed := true }
def MapperDevicesUptoSaid : Prop := mapperDevicesUptoRow.holds Tryz.pinned (OpenSpec.upto mapperDevicesSpec)

/-- 'volumegrouplaw23.MapperRaw', WHERE WHAT IT READS IS OF BULK AT MOST 1048576: true; the input reads as it did. -/
def mapperRawUptoRow : OpenClaim := { program := "ytbmipeiphoghcaagreat", sum := "56d43c1f4c36f6806e6295f69468589c6dd78944e9b7f88f49e817e639df5ec0", func := "volumegroup/volumegrouplaw23.MapperRaw", spec := "mapperRaw", unfollowed := true, recurses := true, plainKeys := false, apart := false, narrowed := true }
def MapperRawUptoSaid : Prop := mapperRawUptoRow.holds Tryz.pinned (OpenSpec.upto mapperRawSpec)

/-- 'volumegrouplaw23.MapperCalls', WHERE WHAT IT READS IS OF BULK AT MOST 1048576: true; the input reads as it did. -/
def mapperCallsUptoRow : OpenClaim := { program := "ytbmipeiphoghcaagreat", sum := "56d43c1f4c36f6806e6295f69468589c6dd78944e9b7f88f49e817e639df5ec0", func := "volumegroup/volumegrouplaw23.MapperCalls", spec := "mapperCalls", unfollowed := true, recurses := true, plainKeys := false, apart := false, narrowed := true }
def MapperCallsUptoSaid : Prop := mapperCallsUptoRow.holds Tryz.pinned (OpenSpec.upto mapperCallsSpec)

end Rows
end Go.Proofs.YtbmipeiphoghcaaGreat
