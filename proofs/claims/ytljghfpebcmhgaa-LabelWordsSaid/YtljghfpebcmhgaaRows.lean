/-
  No cell of these rows narrows 'for every input' (looked for: loops, veiled, ifaces, maps, wideKeys, modest, calm, conditions, laid).
  DERIVED. THE GIVEN ROWS OF THIS SEAT. 4 by the template 'for every input the law returns true; each argument reads behind the call as it read before'; 0 by the template 'total and deterministic' (their statements: YtljghfpebcmhgaaTotals.lean).
  GIVEN WITH THE SEED: the statements are not yours to turn. If you find one false, say at which input.
  Laid BY PROGRAM, IN A SANDBOX (cutbox-rows.mjs): the forced cells as the released guide's own fill.sh prints them over the translation 9a13bc31cb664389… (all of the seat's roots in one cut). By AI agents, Wed Nov 11 2026. No macro, syntax, notation, axiom, sorry.
-/
import Derived.Test.YtljghfpebcmhgaaChecked
import GoSem.Claim
import GoSem.ClaimJoined
import GoSem.ClaimMapViews
import Derived.JoinedTies
import Derived.KernelRfl
namespace Go.Proofs.Ytljghfpebcmhgaa
/- THE CELL 'sum', in the pinned program and in every row, IS THE sha256 OF THE DUMP (.gsa) THAT YtljghfpebcmhgaaProg.lean LOADS. Nothing in Lean hashes anything: it is a label: what it is worth is what the hold of that sum in a sandbox is worth. -/
noncomputable def Try.pinned : Pinned := { name := "ytljghfpebcmhgaa", sum := "9a13bc31cb66438914c68f9000c30ecdc5bbfb1d5a73099636b9e16493854af4", checked := Try.checked }
namespace Rows
def none {H : Type} : Left H := { results := [], args := [] }

/-- 'volumegrouplaw11.LabelBits': WHATEVER THE INPUT: true; the input reads as it did. -/
def labelBitsSpec : ChangeSpec := { name := "labelBits", fn := fun _ => fun
  | [d1, d2, d3] => { results := [.lit (.bool true)], args := [d1, d2, d3] }
  | _ => none }
def labelBitsRow : OpenClaim := { program := "ytljghfpebcmhgaa", sum := "9a13bc31cb66438914c68f9000c30ecdc5bbfb1d5a73099636b9e16493854af4", func := "volumegroup/volumegrouplaw11.LabelBits", spec := "labelBits", unfollowed := true, recurses := true, plainKeys := false, apart := false }
def LabelBitsSaid : Prop := labelBitsRow.holds Try.pinned (OpenSpec.ofChange labelBitsSpec)

/-- ITS FALSE NEIGHBOUR: 'it returns false'. Refute it at one input. -/
def labelBitsWrong : ChangeSpec := { name := "labelBits", fn := fun _ => fun
  | [d1, d2, d3] => { results := [.lit (.bool false)], args := [d1, d2, d3] }
  | _ => none }
def LabelBitsWrongFalsely : Prop := labelBitsRow.holds Try.pinned (OpenSpec.ofChange labelBitsWrong)

/-- 'volumegrouplaw11.LabelWords': WHATEVER THE INPUT: true; the input reads as it did. -/
def labelWordsSpec : ChangeSpec := { name := "labelWords", fn := fun _ => fun
  | [d1, d2, d3, d4] => { results := [.lit (.bool true)], args := [d1, d2, d3, d4] }
  | _ => none }
def labelWordsRow : OpenClaim := { program := "ytljghfpebcmhgaa", sum := "9a13bc31cb66438914c68f9000c30ecdc5bbfb1d5a73099636b9e16493854af4", func := "volumegroup/volumegrouplaw11.LabelWords", spec := "labelWords", unfollowed := true, recurses := true, plainKeys := false, apart := false }
def LabelWordsSaid : Prop := labelWordsRow.holds Try.pinned (OpenSpec.ofChange labelWordsSpec)

/-- ITS FALSE NEIGHBOUR: 'it returns false'. Refute it at one input. -/
def labelWordsWrong : ChangeSpec := { name := "labelWords", fn := fun _ => fun
  | [d1, d2, d3, d4] => { results := [.lit (.bool false)], args := [d1, d2, d3, d4] }
  | _ => none }
def LabelWordsWrongFalsely : Prop := labelWordsRow.holds Try.pinned (OpenSpec.ofChange labelWordsWrong)

/-- 'volumegrouplaw11.LabelCrash': WHATEVER THE INPUT: true; the input reads as it did. -/
def labelCrashSpec : ChangeSpec := { name := "labelCrash", fn := fun _ => fun
  | [d1, d2, d3, d4] => { results := [.lit (.bool true)], args := [d1, d2, d3, d4] }
  | _ => none }
def labelCrashRow : OpenClaim := { program := "ytljghfpebcmhgaa", sum := "9a13bc31cb66438914c68f9000c30ecdc5bbfb1d5a73099636b9e16493854af4", func := "volumegroup/volumegrouplaw11.LabelCrash", spec := "labelCrash", unfollowed := true, recurses := true, plainKeys := false, apart := false }
def LabelCrashSaid : Prop := labelCrashRow.holds Try.pinned (OpenSpec.ofChange labelCrashSpec)

/-- ITS FALSE NEIGHBOUR: 'it returns false'. Refute it at one input. -/
def labelCrashWrong : ChangeSpec := { name := "labelCrash", fn := fun _ => fun
  | [d1, d2, d3, d4] => { results := [.lit (.bool false)], args := [d1, d2, d3, d4] }
  | _ => none }
def LabelCrashWrongFalsely : Prop := labelCrashRow.holds Try.pinned (OpenSpec.ofChange labelCrashWrong)

/-- 'volumegrouplaw11.LabelDevices': WHATEVER THE INPUT: true; the input reads as it did. -/
def labelDevicesSpec : ChangeSpec := { name := "labelDevices", fn := fun _ => fun
  | [d1, d2, d3] => { results := [.lit (.bool true)], args := [d1, d2, d3] }
  | _ => none }
def labelDevicesRow : OpenClaim := { program := "ytljghfpebcmhgaa", sum := "9a13bc31cb66438914c68f9000c30ecdc5bbfb1d5a73099636b9e16493854af4", func := "volumegroup/volumegrouplaw11.LabelDevices", spec := "labelDevices", unfollowed := true, recurses := true, plainKeys := false, apart := false }
def LabelDevicesSaid : Prop := labelDevicesRow.holds Try.pinned (OpenSpec.ofChange labelDevicesSpec)

/-- ITS FALSE NEIGHBOUR: 'it returns false'. Refute it at one input. -/
def labelDevicesWrong : ChangeSpec := { name := "labelDevices", fn := fun _ => fun
  | [d1, d2, d3] => { results := [.lit (.bool false)], args := [d1, d2, d3] }
  | _ => none }
def LabelDevicesWrongFalsely : Prop := labelDevicesRow.holds Try.pinned (OpenSpec.ofChange labelDevicesWrong)

/- THE SECOND FORM. 'bulk': how many values and letters a reading holds, each counted each time it is reached (what is shared counts as often as it is met; a slice's spare places count too). A statement '..UptoSaid' is the law's where the arguments, and the package variables that the reading takes, are together of bulk at most 1048576: NARROWER than '..Said'. Prove '..Said' where nothing that the law and all that it calls make is longer than what came in: it says more and counts as full. Else prove '..UptoSaid'. A law counts once. -/
mutual
def uptoBulk {H : Type} : DataW H → Nat
  | .lit (.string bytes) => bytes.length + 1
  | .lit _ => 1
  | .nil => 1
  | .ptr d => uptoBulk d + 1
  | .slice elems spare => uptoBulkAll elems + uptoBulkAll spare + 1
  | .agg parts => uptoBulkAll parts + 1
  | .iface _ d => uptoBulk d + 1
  | .map entries => uptoBulkEntries entries + 1
  | .held _ => 1
def uptoBulkAll {H : Type} : List (DataW H) → Nat
  | [] => 0
  | d :: r => uptoBulk d + uptoBulkAll r
def uptoBulkEntries {H : Type} : List (Lit × DataW H) → Nat
  | [] => 0
  | x :: r => uptoBulkEntry x + uptoBulkEntries r
def uptoBulkEntry {H : Type} : Lit × DataW H → Nat
  | (.string bytes, d) => bytes.length + uptoBulk d + 1
  | (_, d) => uptoBulk d + 1
 end
def uptoSmall : (H : Type) → List (DataW H) → Bool := fun _ ds => decide (uptoBulkAll ds ≤ 1048576)
def OpenSpec.upto (s : _root_.Go.ChangeSpec) : _root_.Go.OpenSpec := { _root_.Go.OpenSpec.ofChange s with cond := some uptoSmall }

/-- 'volumegrouplaw11.LabelBits', WHERE WHAT IT READS IS OF BULK AT MOST 1048576: true; the input reads as it did. -/
def labelBitsUptoRow : OpenClaim := { program := "ytljghfpebcmhgaa", sum := "9a13bc31cb66438914c68f9000c30ecdc5bbfb1d5a73099636b9e16493854af4", func := "volumegroup/volumegrouplaw11.LabelBits", spec := "labelBits", unfollowed := true, recurses := true, plainKeys := false, apart := false, narrowed := true }
def LabelBitsUptoSaid : Prop := labelBitsUptoRow.holds Try.pinned (OpenSpec.upto labelBitsSpec)

/-- 'volumegrouplaw11.LabelWords', WHERE WHAT IT READS IS OF BULK AT MOST 1048576: true; the input reads as it did. -/
def labelWordsUptoRow : OpenClaim := { program := "ytljghfpebcmhgaa", sum := "9a13bc31cb66438914c68f9000c30ecdc5bbfb1d5a73099636b9e16493854af4", func := "volumegroup/volumegrouplaw11.LabelWords", spec := "labelWords", unfollowed := true, recurses := true, plainKeys := false, apart := false, narrowed := true }
def LabelWordsUptoSaid : Prop := labelWordsUptoRow.holds Try.pinned (OpenSpec.upto labelWordsSpec)

/-- 'volumegrouplaw11.LabelCrash', WHERE WHAT IT READS IS OF BULK AT MOST 1048576: true; the input reads as it did. -/
def labelCrashUptoRow : OpenClaim := { program := "ytljghfpebcmhgaa", sum := "9a13bc31cb66438914c68f9000c30ecdc5bbfb1d5a73099636b9e16493854af4", func := "volumegroup/volumegrouplaw11.LabelCrash", spec := "labelCrash", unfollowed := true, recurses := true, plainKeys := false, apart := false, narrowed := true }
def LabelCrashUptoSaid : Prop := labelCrashUptoRow.holds Try.pinned (OpenSpec.upto labelCrashSpec)

/-- 'volumegrouplaw11.LabelDevices', WHERE WHAT IT READS IS OF BULK AT MOST 1048576: true; the input reads as it did. -/
def labelDevicesUptoRow : OpenClaim := { program := "ytljghfpebcmhgaa", sum := "9a13bc31cb66438914c68f9000c30ecdc5bbfb1d5a73099636b9e16493854af4", func := "volumegroup/volumegrouplaw11.LabelDevices", spec := "labelDevices", unfollowed := true, recurses := true, plainKeys := false, apart := false, narrowed := true }
def LabelDevicesUptoSaid : Prop := labelDevicesUptoRow.holds Try.pinned (OpenSpec.upto labelDevicesSpec)

end Rows
end Go.Proofs.Ytljghfpebcmhgaa
