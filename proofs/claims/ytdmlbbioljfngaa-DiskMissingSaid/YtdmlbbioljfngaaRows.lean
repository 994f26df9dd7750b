/-
  No cell of these rows narrows 'for every input' (looked for: loops, veiled, ifaces, maps, wideKeys, modest, calm, conditions, laid).
  DERIVED. THE GIVEN ROWS OF THIS SEAT. 10 by the template 'for every input the law returns true; each argument reads behind the call as it read before'; 0 by the template 'total and deterministic' (their statements: YtdmlbbioljfngaaTotals.lean).
  GIVEN WITH THE SEED: the statements are not yours to turn. If you find one false, say at which input.
  Laid BY PROGRAM, IN A SANDBOX (cutbox-rows.mjs): the forced cells as the released guide's own fill.sh prints them over the translation 5cacc1e21c9cfdc1… (all of the seat's roots in one cut). By AI agents, Wed Nov 11 2026. No macro, syntax, notation, axiom, sorry.
-/
import Derived.Test.YtdmlbbioljfngaaChecked
import GoSem.Claim
import GoSem.ClaimJoined
import GoSem.ClaimMapViews
import Derived.JoinedTies
import Derived.KernelRfl
namespace Go.Proofs.Ytdmlbbioljfngaa
/- THE CELL 'sum', in the pinned program and in every row, IS THE sha256 OF THE DUMP (.gsa) THAT YtdmlbbioljfngaaProg.lean LOADS. Nothing in Lean hashes anything: it is a label: what it is worth is what the hold of that sum in a sandbox is worth. -/
noncomputable def Try.pinned : Pinned := { name := "ytdmlbbioljfngaa", sum := "5cacc1e21c9cfdc1aa89eae8955e828778dbbd12fd57a7b3d100b5dbf592e255", checked := Try.checked }
namespace Rows
def none {H : Type} : Left H := { results := [], args := [] }

/-- 'volumegrouplaw17.StripeEven': WHATEVER THE INPUT: true; the input reads as it did. -/
def stripeEvenSpec : ChangeSpec := { name := "stripeEven", fn := fun _ => fun
  | [d1, d2, d3] => { results := [.lit (.bool true)], args := [d1, d2, d3] }
  | _ => none }
def stripeEvenRow : OpenClaim := { program := "ytdmlbbioljfngaa", sum := "5cacc1e21c9cfdc1aa89eae8955e828778dbbd12fd57a7b3d100b5dbf592e255", func := "volumegroup/volumegrouplaw17.StripeEven", spec := "stripeEven", unfollowed := true, recurses := true, plainKeys := false, apart := false }
def StripeEvenSaid : Prop := stripeEvenRow.holds Try.pinned (OpenSpec.ofChange stripeEvenSpec)

/-- ITS FALSE NEIGHBOUR: 'it returns false'. Refute it at one input. -/
def stripeEvenWrong : ChangeSpec := { name := "stripeEven", fn := fun _ => fun
  | [d1, d2, d3] => { results := [.lit (.bool false)], args := [d1, d2, d3] }
  | _ => none }
def StripeEvenWrongFalsely : Prop := stripeEvenRow.holds Try.pinned (OpenSpec.ofChange stripeEvenWrong)

/-- 'volumegrouplaw17.StripePlaces': WHATEVER THE INPUT: true; the input reads as it did. -/
def stripePlacesSpec : ChangeSpec := { name := "stripePlaces", fn := fun _ => fun
  | [d1, d2, d3, d4, d5] => { results := [.lit (.bool true)], args := [d1, d2, d3, d4, d5] }
  | _ => none }
def stripePlacesRow : OpenClaim := { program := "ytdmlbbioljfngaa", sum := "5cacc1e21c9cfdc1aa89eae8955e828778dbbd12fd57a7b3d100b5dbf592e255", func := "volumegroup/volumegrouplaw17.StripePlaces", spec := "stripePlaces", unfollowed := true, recurses := true, plainKeys := false, apart := false }
def StripePlacesSaid : Prop := stripePlacesRow.holds Try.pinned (OpenSpec.ofChange stripePlacesSpec)

/-- ITS FALSE NEIGHBOUR: 'it returns false'. Refute it at one input. -/
def stripePlacesWrong : ChangeSpec := { name := "stripePlaces", fn := fun _ => fun
  | [d1, d2, d3, d4, d5] => { results := [.lit (.bool false)], args := [d1, d2, d3, d4, d5] }
  | _ => none }
def StripePlacesWrongFalsely : Prop := stripePlacesRow.holds Try.pinned (OpenSpec.ofChange stripePlacesWrong)

/-- 'volumegrouplaw17.StripeBack': WHATEVER THE INPUT: true; the input reads as it did. -/
def stripeBackSpec : ChangeSpec := { name := "stripeBack", fn := fun _ => fun
  | [d1, d2, d3, d4] => { results := [.lit (.bool true)], args := [d1, d2, d3, d4] }
  | _ => none }
def stripeBackRow : OpenClaim := { program := "ytdmlbbioljfngaa", sum := "5cacc1e21c9cfdc1aa89eae8955e828778dbbd12fd57a7b3d100b5dbf592e255", func := "volumegroup/volumegrouplaw17.StripeBack", spec := "stripeBack", unfollowed := true, recurses := true, plainKeys := false, apart := false }
def StripeBackSaid : Prop := stripeBackRow.holds Try.pinned (OpenSpec.ofChange stripeBackSpec)

/-- ITS FALSE NEIGHBOUR: 'it returns false'. Refute it at one input. -/
def stripeBackWrong : ChangeSpec := { name := "stripeBack", fn := fun _ => fun
  | [d1, d2, d3, d4] => { results := [.lit (.bool false)], args := [d1, d2, d3, d4] }
  | _ => none }
def StripeBackWrongFalsely : Prop := stripeBackRow.holds Try.pinned (OpenSpec.ofChange stripeBackWrong)

/-- 'volumegrouplaw04.DiskCandidates': WHATEVER THE INPUT: true; the input reads as it did. -/
def diskCandidatesSpec : ChangeSpec := { name := "diskCandidates", fn := fun _ => fun
  | [d] => { results := [.lit (.bool true)], args := [d] }
  | _ => none }
def diskCandidatesRow : OpenClaim := { program := "ytdmlbbioljfngaa", sum := "5cacc1e21c9cfdc1aa89eae8955e828778dbbd12fd57a7b3d100b5dbf592e255", func := "volumegroup/volumegrouplaw04.DiskCandidates", spec := "diskCandidates", unfollowed := true, recurses := true, plainKeys := false, apart := false }
def DiskCandidatesSaid : Prop := diskCandidatesRow.holds Try.pinned (OpenSpec.ofChange diskCandidatesSpec)

/-- ITS FALSE NEIGHBOUR: 'it returns false'. Refute it at one input. -/
def diskCandidatesWrong : ChangeSpec := { name := "diskCandidates", fn := fun _ => fun
  | [d] => { results := [.lit (.bool false)], args := [d] }
  | _ => none }
def DiskCandidatesWrongFalsely : Prop := diskCandidatesRow.holds Try.pinned (OpenSpec.ofChange diskCandidatesWrong)

/-- 'volumegrouplaw04.DiskFuses': WHATEVER THE INPUT: true; the input reads as it did. -/
def diskFusesSpec : ChangeSpec := { name := "diskFuses", fn := fun _ => fun
  | [d1, d2] => { results := [.lit (.bool true)], args := [d1, d2] }
  | _ => none }
def diskFusesRow : OpenClaim := { program := "ytdmlbbioljfngaa", sum := "5cacc1e21c9cfdc1aa89eae8955e828778dbbd12fd57a7b3d100b5dbf592e255", func := "volumegroup/volumegrouplaw04.DiskFuses", spec := "diskFuses", unfollowed := true, recurses := true, plainKeys := false, apart := false }
def DiskFusesSaid : Prop := diskFusesRow.holds Try.pinned (OpenSpec.ofChange diskFusesSpec)

/-- ITS FALSE NEIGHBOUR: 'it returns false'. Refute it at one input. -/
def diskFusesWrong : ChangeSpec := { name := "diskFuses", fn := fun _ => fun
  | [d1, d2] => { results := [.lit (.bool false)], args := [d1, d2] }
  | _ => none }
def DiskFusesWrongFalsely : Prop := diskFusesRow.holds Try.pinned (OpenSpec.ofChange diskFusesWrong)

/-- 'volumegrouplaw04.DiskKeeps': WHATEVER THE INPUT: true; the input reads as it did. -/
def diskKeepsSpec : ChangeSpec := { name := "diskKeeps", fn := fun _ => fun
  | [d1, d2] => { results := [.lit (.bool true)], args := [d1, d2] }
  | _ => none }
def diskKeepsRow : OpenClaim := { program := "ytdmlbbioljfngaa", sum := "5cacc1e21c9cfdc1aa89eae8955e828778dbbd12fd57a7b3d100b5dbf592e255", func := "volumegroup/volumegrouplaw04.DiskKeeps", spec := "diskKeeps", unfollowed := true, recurses := true, plainKeys := false, apart := false }
def DiskKeepsSaid : Prop := diskKeepsRow.holds Try.pinned (OpenSpec.ofChange diskKeepsSpec)

/-- ITS FALSE NEIGHBOUR: 'it returns false'. Refute it at one input. -/
def diskKeepsWrong : ChangeSpec := { name := "diskKeeps", fn := fun _ => fun
  | [d1, d2] => { results := [.lit (.bool false)], args := [d1, d2] }
  | _ => none }
def DiskKeepsWrongFalsely : Prop := diskKeepsRow.holds Try.pinned (OpenSpec.ofChange diskKeepsWrong)

/-- 'volumegrouplaw04.DiskMissing': WHATEVER THE INPUT: true; the input reads as it did. -/
def diskMissingSpec : ChangeSpec := { name := "diskMissing", fn := fun _ => fun
  | [d1, d2] => { results := [.lit (.bool true)], args := [d1, d2] }
  | _ => none }
def diskMissingRow : OpenClaim := { program := "ytdmlbbioljfngaa", sum := "5cacc1e21c9cfdc1aa89eae8955e828778dbbd12fd57a7b3d100b5dbf592e255", func := "volumegroup/volumegrouplaw04.DiskMissing", spec := "diskMissing", unfollowed := true, recurses := true, plainKeys := false, apart := false }
def DiskMissingSaid : Prop := diskMissingRow.holds Try.pinned (OpenSpec.ofChange diskMissingSpec)

/-- ITS FALSE NEIGHBOUR: 'it returns false'. Refute it at one input. -/
def diskMissingWrong : ChangeSpec := { name := "diskMissing", fn := fun _ => fun
  | [d1, d2] => { results := [.lit (.bool false)], args := [d1, d2] }
  | _ => none }
def DiskMissingWrongFalsely : Prop := diskMissingRow.holds Try.pinned (OpenSpec.ofChange diskMissingWrong)

/-- 'volumegrouplaw04.DiskBad': WHATEVER THE INPUT: true; the input reads as it did. -/
def diskBadSpec : ChangeSpec := { name := "diskBad", fn := fun _ => fun
  | [d1, d2, d3] => { results := [.lit (.bool true)], args := [d1, d2, d3] }
  | _ => none }
def diskBadRow : OpenClaim := { program := "ytdmlbbioljfngaa", sum := "5cacc1e21c9cfdc1aa89eae8955e828778dbbd12fd57a7b3d100b5dbf592e255", func := "volumegroup/volumegrouplaw04.DiskBad", spec := "diskBad", unfollowed := true, recurses := true, plainKeys := false, apart := false }
def DiskBadSaid : Prop := diskBadRow.holds Try.pinned (OpenSpec.ofChange diskBadSpec)

/-- ITS FALSE NEIGHBOUR: 'it returns false'. Refute it at one input. -/
def diskBadWrong : ChangeSpec := { name := "diskBad", fn := fun _ => fun
  | [d1, d2, d3] => { results := [.lit (.bool false)], args := [d1, d2, d3] }
  | _ => none }
def DiskBadWrongFalsely : Prop := diskBadRow.holds Try.pinned (OpenSpec.ofChange diskBadWrong)

/-- 'volumegrouplaw04.DiskRaw': WHATEVER THE INPUT: true; the input reads as it did. -/
def diskRawSpec : ChangeSpec := { name := "diskRaw", fn := fun _ => fun
  | [d1, d2] => { results := [.lit (.bool true)], args := [d1, d2] }
  | _ => none }
def diskRawRow : OpenClaim := { program := "ytdmlbbioljfngaa", sum := "5cacc1e21c9cfdc1aa89eae8955e828778dbbd12fd57a7b3d100b5dbf592e255", func := "volumegroup/volumegrouplaw04.DiskRaw", spec := "diskRaw", unfollowed := true, recurses := true, plainKeys := false, apart := false }
def DiskRawSaid : Prop := diskRawRow.holds Try.pinned (OpenSpec.ofChange diskRawSpec)

/-- ITS FALSE NEIGHBOUR: 'it returns false'. Refute it at one input. -/
def diskRawWrong : ChangeSpec := { name := "diskRaw", fn := fun _ => fun
  | [d1, d2] => { results := [.lit (.bool false)], args := [d1, d2] }
  | _ => none }
def DiskRawWrongFalsely : Prop := diskRawRow.holds Try.pinned (OpenSpec.ofChange diskRawWrong)

/-- 'volumegrouplaw04.DiskCalls': WHATEVER THE INPUT: true; the input reads as it did. -/
def diskCallsSpec : ChangeSpec := { name := "diskCalls", fn := fun _ => fun
  | [d1, d2] => { results := [.lit (.bool true)], args := [d1, d2] }
  | _ => none }
def diskCallsRow : OpenClaim := { program := "ytdmlbbioljfngaa", sum := "5cacc1e21c9cfdc1aa89eae8955e828778dbbd12fd57a7b3d100b5dbf592e255", func := "volumegroup/volumegrouplaw04.DiskCalls", spec := "diskCalls", unfollowed := true, recurses := true, plainKeys := false, apart := false }
def DiskCallsSaid : Prop := diskCallsRow.holds Try.pinned (OpenSpec.ofChange diskCallsSpec)

/-- ITS FALSE NEIGHBOUR: 'it returns false'. Refute it at one input. -/
def diskCallsWrong : ChangeSpec := { name := "diskCalls", fn := fun _ => fun
  | [d1, d2] => { results := [.lit (.bool false)], args := [d1, d2] }
  | _ => none }
def DiskCallsWrongFalsely : Prop := diskCallsRow.holds Try.pinned (OpenSpec.ofChange diskCallsWrong)

/- THE SECOND FORM. 'bulk': how many values and letters a reading holds, each counted each time it is reached (what is shared counts as often as it is met; a slice's spare places count too). A statement '..UptoSaid' is the law's where the arguments, and the package variables that the reading takes, are together of bulk at most 1048576: NARROWER than '..Said'. Prove '..Said' where nothing that the law and all that it calls make is longer than what came in: it says more and counts as full. Else prove '..UptoSaid'. A law counts once. -/
mutual
def uptoBulk {H : Type} : DataW H → Nat
  | .lit (.string bytes) => bytes.length + 1
  | .lit _ => 1
  | .nil => 1
  | .ptr d => uptoBulk d + 1
  | .slice elems spare => uptoBulkAll elems + uptoBulkAll spare + 1
  | .agg parts => uptoBulkAll parts + 1
  | .iface _ d => uptoBulk d + 1
  | .map entries => uptoBulkEntries entries + 1
  | .held _ => 1
def uptoBulkAll {H : Type} : List (DataW H) → Nat
  | [] => 0
  | d :: r => uptoBulk d + uptoBulkAll r
def uptoBulkEntries {H : Type} : List (Lit × DataW H) → Nat
  | [] => 0
  | x :: r => uptoBulkEntry x + uptoBulkEntries r
def uptoBulkEntry {H : Type} : Lit × DataW H → Nat
  | (.string bytes, d) => bytes.length + uptoBulk d + 1
  | (_, d) => uptoBulk d + 1
 end
def uptoSmall : (H : Type) → List (DataW H) → Bool := fun _ ds => decide (uptoBulkAll ds ≤ 1048576)
def OpenSpec.upto (s : _root_.Go.ChangeSpec) : _root_.Go.OpenSpec := { _root_.Go.OpenSpec.ofChange s with cond := some uptoSmall }

/-- 'volumegrouplaw17.StripeEven', WHERE WHAT IT READS IS OF BULK AT MOST 1048576: true; the input reads as it did. -/
def stripeEvenUptoRow : OpenClaim := { program := "ytdmlbbioljfngaa", sum := "5cacc1e21c9cfdc1aa89eae8955e828778dbbd12fd57a7b3d100b5dbf592e255", func := "volumegroup/volumegrouplaw17.StripeEven", spec := "stripeEven", unfollowed := true, recurses := true, plainKeys := false, apart := false, narrowed := true }
def StripeEvenUptoSaid : Prop := stripeEvenUptoRow.holds Try.pinned (OpenSpec.upto stripeEvenSpec)

/-- 'volumegrouplaw17.StripePlaces', WHERE WHAT IT READS IS OF BULK AT MOST 1048576: true; the input reads as it did. -/
def stripePlacesUptoRow : OpenClaim := { program := "ytdmlbbioljfngaa", sum := "5cacc1e21c9cfdc1aa89eae8955e828778dbbd12fd57a7b3d100b5dbf592e255", func := "volumegroup/volumegrouplaw17.StripePlaces", spec := "stripePlaces", unfollowed := true, recurses := true, plainKeys := false, apart := false, narrowed := true }
def StripePlacesUptoSaid : Prop := stripePlacesUptoRow.holds Try.pinned (OpenSpec.upto stripePlacesSpec)

/-- 'volumegrouplaw17.StripeBack', WHERE WHAT IT READS IS OF BULK AT MOST 1048576: true; the input reads as it did. -/
def stripeBackUptoRow : OpenClaim := { program := "ytdmlbbioljfngaa", sum := "5cacc1e21c9cfdc1aa89eae8955e828778dbbd12fd57a7b3d100b5dbf592e255", func := "volumegroup/volumegrouplaw17.StripeBack", spec := "stripeBack", unfollowed := true, recurses := true, plainKeys := false, apart := false, narrowed := true }
def StripeBackUptoSaid : Prop := stripeBackUptoRow.holds Try.pinned (OpenSpec.upto stripeBackSpec)

/-- 'volumegrouplaw04.DiskCandidates', WHERE WHAT IT READS IS OF BULK AT MOST 1048576: true; the input reads as it did. -/
def diskCandidatesUptoRow : OpenClaim := { program := "ytdmlbbioljfngaa", sum := "5cacc1e21c9cfdc1aa89eae8955e828778dbbd12fd57a7b3d100b5dbf592e255", func := "volumegroup/volumegrouplaw04.DiskCandidates", spec := "diskCandidates", unfollowed := true, recurses := true, plainKeys := false, apart := false, narrowed := true }
def DiskCandidatesUptoSaid : Prop := diskCandidatesUptoRow.holds Try.pinned (OpenSpec.upto diskCandidatesSpec)

/-- 'volumegrouplaw04.DiskFuses', WHERE WHAT IT READS IS OF BULK AT MOST 1048576: true; the input reads as it did. -/
def diskFusesUptoRow : OpenClaim := { program := "ytdmlbbioljfngaa", sum := "5cacc1e21c9cfdc1aa89eae8955e828778dbbd12fd57a7b3d100b5dbf592e255", func := "volumegroup/volumegrouplaw04.DiskFuses", spec := "diskFuses", unfollowed := true, recurses := true, plainKeys := false, apart := false, narrowed := true }
def DiskFusesUptoSaid : Prop := diskFusesUptoRow.holds Try.pinned (OpenSpec.upto diskFusesSpec)

/-- 'volumegrouplaw04.DiskKeeps', WHERE WHAT IT READS IS OF BULK AT MOST 1048576: true; the input reads as it did. -/
def diskKeepsUptoRow : OpenClaim := { program := "ytdmlbbioljfngaa", sum := "5cacc1e21c9cfdc1aa89eae8955e828778dbbd12fd57a7b3d100b5dbf592e255", func := "volumegroup/volumegrouplaw04.DiskKeeps", spec := "diskKeeps", unfollowed := true, recurses := true, plainKeys := false, apart := false, narrowed := true }
def DiskKeepsUptoSaid : Prop := diskKeepsUptoRow.holds Try.pinned (OpenSpec.upto diskKeepsSpec)

/-- 'volumegrouplaw04.DiskMissing', WHERE WHAT IT READS IS OF BULK AT MOST 1048576: true; the input reads as it did. -/
def diskMissingUptoRow : OpenClaim := { program := "ytdmlbbioljfngaa", sum := "5cacc1e21c9cfdc1aa89eae8955e828778dbbd12fd57a7b3d100b5dbf592e255", func := "volumegroup/volumegrouplaw04.DiskMissing", spec := "diskMissing", unfollowed := true, recurses := true, plainKeys := false, apart := false, narrowed := true }
def DiskMissingUptoSaid : Prop := diskMissingUptoRow.holds Try.pinned (OpenSpec.upto diskMissingSpec)

/-- 'volumegrouplaw04.DiskBad', WHERE WHAT IT READS IS OF BULK AT MOST 1048576: true; the input reads as it did. -/
def diskBadUptoRow : OpenClaim := { program := "ytdmlbbioljfngaa", sum := "5cacc1e21c9cfdc1aa89eae8955e828778dbbd12fd57a7b3d100b5dbf592e255", func := "volumegroup/volumegrouplaw04.DiskBad", spec := "diskBad", unfollowed := true, recurses := true, plainKeys := false, apart := false, narrowed := true }
def DiskBadUptoSaid : Prop := diskBadUptoRow.holds Try.pinned (OpenSpec.upto diskBadSpec)

/-- 'volumegrouplaw04.DiskRaw', WHERE WHAT IT READS IS OF BULK AT MOST 1048576: true; the input reads as it did. -/
def diskRawUptoRow : OpenClaim := { program := "ytdmlbbioljfngaa", sum := "5cacc1e21c9cfdc1aa89eae8955e828778dbbd12fd57a7b3d100b5dbf592e255", func := "volumegroup/volumegrouplaw04.DiskRaw", spec := "diskRaw", unfollowed := true, recurses := true, plainKeys := false, apart := false, narrowed := true }
def DiskRawUptoSaid : Prop := diskRawUptoRow.holds Try.pinned (OpenSpec.upto diskRawSpec)

/-- 'volumegrouplaw04.DiskCalls', WHERE WHAT IT READS IS OF BULK AT MOST 1048576: true; the input reads as it did. -/
def diskCallsUptoRow : OpenClaim := { program := "ytdmlbbioljfngaa", sum := "5cacc1e21c9cfdc1aa89eae8955e828778dbbd12fd57a7b3d100b5dbf592e255", func := "volumegroup/volumegrouplaw04.DiskCalls", spec := "diskCalls", unfollowed := true, recurses := true, plainKeys := false, apart := false, narrowed := true }
def DiskCallsUptoSaid : Prop := diskCallsUptoRow.holds Try.pinned (OpenSpec.upto diskCallsSpec)

end Rows
end Go.Proofs.Ytdmlbbioljfngaa
