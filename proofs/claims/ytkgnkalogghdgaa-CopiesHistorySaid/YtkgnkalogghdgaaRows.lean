/-
  No cell of these rows narrows 'for every input' (looked for: loops, veiled, ifaces, maps, wideKeys, modest, calm, conditions, laid).
  DERIVED. THE GIVEN ROWS OF THIS SEAT. 11 by the template 'for every input the law returns true; each argument reads behind the call as it read before'; 0 by the template 'total and deterministic' (their statements: YtkgnkalogghdgaaTotals.lean).
  GIVEN WITH THE SEED: the statements are not yours to turn. If you find one false, say at which input.
  Laid BY PROGRAM, IN A SANDBOX (cutbox-rows.mjs): the forced cells as the released guide's own fill.sh prints them over the translation f769b83740920c25… (all of the seat's roots in one cut). By AI agents, Wed Nov 11 2026. No macro, syntax, notation, axiom, sorry.
-/
import Derived.Test.YtkgnkalogghdgaaChecked
import GoSem.Claim
import GoSem.ClaimJoined
import GoSem.ClaimMapViews
import Derived.JoinedTies
import Derived.KernelRfl
namespace Go.Proofs.Ytkgnkalogghdgaa
/- THE CELL 'sum', in the pinned program and in every row, IS THE sha256 OF THE DUMP (.gsa) THAT YtkgnkalogghdgaaProg.lean LOADS. Nothing in Lean hashes anything: it is a label: what it is worth is what the hold of that sum in a sandbox is worth. -/
noncomputable def Try.pinned : Pinned := { name := "ytkgnkalogghdgaa", sum := "f769b83740920c251efdf892a5849565eb115df62b31b7f629847120ef31d85e", checked := Try.checked }
namespace Rows
def none {H : Type} : Left H := { results := [], args := [] }

/-- 'volumegrouplaw12.RingTurns': WHATEVER THE INPUT: true; the input reads as it did. -/
def ringTurnsSpec : ChangeSpec := { name := "ringTurns", fn := fun _ => fun
  | [d] => { results := [.lit (.bool true)], args := [d] }
  | _ => none }
def ringTurnsRow : OpenClaim := { program := "ytkgnkalogghdgaa", sum := "f769b83740920c251efdf892a5849565eb115df62b31b7f629847120ef31d85e", func := "volumegroup/volumegrouplaw12.RingTurns", spec := "ringTurns", unfollowed := true, recurses := true, plainKeys := false, apart := false }
def RingTurnsSaid : Prop := ringTurnsRow.holds Try.pinned (OpenSpec.ofChange ringTurnsSpec)

/-- ITS FALSE NEIGHBOUR: 'it returns false'. Refute it at one input. -/
def ringTurnsWrong : ChangeSpec := { name := "ringTurns", fn := fun _ => fun
  | [d] => { results := [.lit (.bool false)], args := [d] }
  | _ => none }
def RingTurnsWrongFalsely : Prop := ringTurnsRow.holds Try.pinned (OpenSpec.ofChange ringTurnsWrong)

/-- 'volumegrouplaw12.RingCrash': WHATEVER THE INPUT: true; the input reads as it did. -/
def ringCrashSpec : ChangeSpec := { name := "ringCrash", fn := fun _ => fun
  | [d1, d2, d3] => { results := [.lit (.bool true)], args := [d1, d2, d3] }
  | _ => none }
def ringCrashRow : OpenClaim := { program := "ytkgnkalogghdgaa", sum := "f769b83740920c251efdf892a5849565eb115df62b31b7f629847120ef31d85e", func := "volumegroup/volumegrouplaw12.RingCrash", spec := "ringCrash", unfollowed := true, recurses := true, plainKeys := false, apart := false }
def RingCrashSaid : Prop := ringCrashRow.holds Try.pinned (OpenSpec.ofChange ringCrashSpec)

/-- ITS FALSE NEIGHBOUR: 'it returns false'. Refute it at one input. -/
def ringCrashWrong : ChangeSpec := { name := "ringCrash", fn := fun _ => fun
  | [d1, d2, d3] => { results := [.lit (.bool false)], args := [d1, d2, d3] }
  | _ => none }
def RingCrashWrongFalsely : Prop := ringCrashRow.holds Try.pinned (OpenSpec.ofChange ringCrashWrong)

/-- 'volumegrouplaw12.RingKeeps': WHATEVER THE INPUT: true; the input reads as it did. -/
def ringKeepsSpec : ChangeSpec := { name := "ringKeeps", fn := fun _ => fun
  | [d] => { results := [.lit (.bool true)], args := [d] }
  | _ => none }
def ringKeepsRow : OpenClaim := { program := "ytkgnkalogghdgaa", sum := "f769b83740920c251efdf892a5849565eb115df62b31b7f629847120ef31d85e", func := "volumegroup/volumegrouplaw12.RingKeeps", spec := "ringKeeps", unfollowed := true, recurses := true, plainKeys := false, apart := false }
def RingKeepsSaid : Prop := ringKeepsRow.holds Try.pinned (OpenSpec.ofChange ringKeepsSpec)

/-- ITS FALSE NEIGHBOUR: 'it returns false'. Refute it at one input. -/
def ringKeepsWrong : ChangeSpec := { name := "ringKeeps", fn := fun _ => fun
  | [d] => { results := [.lit (.bool false)], args := [d] }
  | _ => none }
def RingKeepsWrongFalsely : Prop := ringKeepsRow.holds Try.pinned (OpenSpec.ofChange ringKeepsWrong)

/-- 'volumegrouplaw12.RingAreas': WHATEVER THE INPUT: true; the input reads as it did. -/
def ringAreasSpec : ChangeSpec := { name := "ringAreas", fn := fun _ => fun
  | [d1, d2, d3, d4] => { results := [.lit (.bool true)], args := [d1, d2, d3, d4] }
  | _ => none }
def ringAreasRow : OpenClaim := { program := "ytkgnkalogghdgaa", sum := "f769b83740920c251efdf892a5849565eb115df62b31b7f629847120ef31d85e", func := "volumegroup/volumegrouplaw12.RingAreas", spec := "ringAreas", unfollowed := true, recurses := true, plainKeys := false, apart := false }
def RingAreasSaid : Prop := ringAreasRow.holds Try.pinned (OpenSpec.ofChange ringAreasSpec)

/-- ITS FALSE NEIGHBOUR: 'it returns false'. Refute it at one input. -/
def ringAreasWrong : ChangeSpec := { name := "ringAreas", fn := fun _ => fun
  | [d1, d2, d3, d4] => { results := [.lit (.bool false)], args := [d1, d2, d3, d4] }
  | _ => none }
def RingAreasWrongFalsely : Prop := ringAreasRow.holds Try.pinned (OpenSpec.ofChange ringAreasWrong)

/-- 'volumegrouplaw12.RingClears': WHATEVER THE INPUT: true; the input reads as it did. -/
def ringClearsSpec : ChangeSpec := { name := "ringClears", fn := fun _ => fun
  | [d] => { results := [.lit (.bool true)], args := [d] }
  | _ => none }
def ringClearsRow : OpenClaim := { program := "ytkgnkalogghdgaa", sum := "f769b83740920c251efdf892a5849565eb115df62b31b7f629847120ef31d85e", func := "volumegroup/volumegrouplaw12.RingClears", spec := "ringClears", unfollowed := true, recurses := true, plainKeys := false, apart := false }
def RingClearsSaid : Prop := ringClearsRow.holds Try.pinned (OpenSpec.ofChange ringClearsSpec)

/-- ITS FALSE NEIGHBOUR: 'it returns false'. Refute it at one input. -/
def ringClearsWrong : ChangeSpec := { name := "ringClears", fn := fun _ => fun
  | [d] => { results := [.lit (.bool false)], args := [d] }
  | _ => none }
def RingClearsWrongFalsely : Prop := ringClearsRow.holds Try.pinned (OpenSpec.ofChange ringClearsWrong)

/-- 'volumegrouplaw13.CopiesScan': WHATEVER THE INPUT: true; the input reads as it did. -/
def copiesScanSpec : ChangeSpec := { name := "copiesScan", fn := fun _ => fun
  | [d] => { results := [.lit (.bool true)], args := [d] }
  | _ => none }
def copiesScanRow : OpenClaim := { program := "ytkgnkalogghdgaa", sum := "f769b83740920c251efdf892a5849565eb115df62b31b7f629847120ef31d85e", func := "volumegroup/volumegrouplaw13.CopiesScan", spec := "copiesScan", unfollowed := true, recurses := true, plainKeys := false, apart := false }
def CopiesScanSaid : Prop := copiesScanRow.holds Try.pinned (OpenSpec.ofChange copiesScanSpec)

/-- ITS FALSE NEIGHBOUR: 'it returns false'. Refute it at one input. -/
def copiesScanWrong : ChangeSpec := { name := "copiesScan", fn := fun _ => fun
  | [d] => { results := [.lit (.bool false)], args := [d] }
  | _ => none }
def CopiesScanWrongFalsely : Prop := copiesScanRow.holds Try.pinned (OpenSpec.ofChange copiesScanWrong)

/-- 'volumegrouplaw13.CopiesCommits': WHATEVER THE INPUT: true; the input reads as it did. -/
def copiesCommitsSpec : ChangeSpec := { name := "copiesCommits", fn := fun _ => fun
  | [d1, d2, d3] => { results := [.lit (.bool true)], args := [d1, d2, d3] }
  | _ => none }
def copiesCommitsRow : OpenClaim := { program := "ytkgnkalogghdgaa", sum := "f769b83740920c251efdf892a5849565eb115df62b31b7f629847120ef31d85e", func := "volumegroup/volumegrouplaw13.CopiesCommits", spec := "copiesCommits", unfollowed := true, recurses := true, plainKeys := false, apart := false }
def CopiesCommitsSaid : Prop := copiesCommitsRow.holds Try.pinned (OpenSpec.ofChange copiesCommitsSpec)

/-- ITS FALSE NEIGHBOUR: 'it returns false'. Refute it at one input. -/
def copiesCommitsWrong : ChangeSpec := { name := "copiesCommits", fn := fun _ => fun
  | [d1, d2, d3] => { results := [.lit (.bool false)], args := [d1, d2, d3] }
  | _ => none }
def CopiesCommitsWrongFalsely : Prop := copiesCommitsRow.holds Try.pinned (OpenSpec.ofChange copiesCommitsWrong)

/-- 'volumegrouplaw13.CopiesChoose': WHATEVER THE INPUT: true; the input reads as it did. -/
def copiesChooseSpec : ChangeSpec := { name := "copiesChoose", fn := fun _ => fun
  | [d1, d2] => { results := [.lit (.bool true)], args := [d1, d2] }
  | _ => none }
def copiesChooseRow : OpenClaim := { program := "ytkgnkalogghdgaa", sum := "f769b83740920c251efdf892a5849565eb115df62b31b7f629847120ef31d85e", func := "volumegroup/volumegrouplaw13.CopiesChoose", spec := "copiesChoose", unfollowed := true, recurses := true, plainKeys := false, apart := false }
def CopiesChooseSaid : Prop := copiesChooseRow.holds Try.pinned (OpenSpec.ofChange copiesChooseSpec)

/-- ITS FALSE NEIGHBOUR: 'it returns false'. Refute it at one input. -/
def copiesChooseWrong : ChangeSpec := { name := "copiesChoose", fn := fun _ => fun
  | [d1, d2] => { results := [.lit (.bool false)], args := [d1, d2] }
  | _ => none }
def CopiesChooseWrongFalsely : Prop := copiesChooseRow.holds Try.pinned (OpenSpec.ofChange copiesChooseWrong)

/-- 'volumegrouplaw13.CopiesHistory': WHATEVER THE INPUT: true; the input reads as it did. -/
def copiesHistorySpec : ChangeSpec := { name := "copiesHistory", fn := fun _ => fun
  | [d] => { results := [.lit (.bool true)], args := [d] }
  | _ => none }
def copiesHistoryRow : OpenClaim := { program := "ytkgnkalogghdgaa", sum := "f769b83740920c251efdf892a5849565eb115df62b31b7f629847120ef31d85e", func := "volumegroup/volumegrouplaw13.CopiesHistory", spec := "copiesHistory", unfollowed := true, recurses := true, plainKeys := false, apart := false }
def CopiesHistorySaid : Prop := copiesHistoryRow.holds Try.pinned (OpenSpec.ofChange copiesHistorySpec)

/-- ITS FALSE NEIGHBOUR: 'it returns false'. Refute it at one input. -/
def copiesHistoryWrong : ChangeSpec := { name := "copiesHistory", fn := fun _ => fun
  | [d] => { results := [.lit (.bool false)], args := [d] }
  | _ => none }
def CopiesHistoryWrongFalsely : Prop := copiesHistoryRow.holds Try.pinned (OpenSpec.ofChange copiesHistoryWrong)

/-- 'volumegrouplaw13.CopiesAgree': WHATEVER THE INPUT: true; the input reads as it did. -/
def copiesAgreeSpec : ChangeSpec := { name := "copiesAgree", fn := fun _ => fun
  | [d1, d2] => { results := [.lit (.bool true)], args := [d1, d2] }
  | _ => none }
def copiesAgreeRow : OpenClaim := { program := "ytkgnkalogghdgaa", sum := "f769b83740920c251efdf892a5849565eb115df62b31b7f629847120ef31d85e", func := "volumegroup/volumegrouplaw13.CopiesAgree", spec := "copiesAgree", unfollowed := true, recurses := true, plainKeys := false, apart := false }
def CopiesAgreeSaid : Prop := copiesAgreeRow.holds Try.pinned (OpenSpec.ofChange copiesAgreeSpec)

/-- ITS FALSE NEIGHBOUR: 'it returns false'. Refute it at one input. -/
def copiesAgreeWrong : ChangeSpec := { name := "copiesAgree", fn := fun _ => fun
  | [d1, d2] => { results := [.lit (.bool false)], args := [d1, d2] }
  | _ => none }
def CopiesAgreeWrongFalsely : Prop := copiesAgreeRow.holds Try.pinned (OpenSpec.ofChange copiesAgreeWrong)

/-- 'volumegrouplaw13.CopiesSettles': WHATEVER THE INPUT: true; the input reads as it did. -/
def copiesSettlesSpec : ChangeSpec := { name := "copiesSettles", fn := fun _ => fun
  | [d] => { results := [.lit (.bool true)], args := [d] }
  | _ => none }
def copiesSettlesRow : OpenClaim := { program := "ytkgnkalogghdgaa", sum := "f769b83740920c251efdf892a5849565eb115df62b31b7f629847120ef31d85e", func := "volumegroup/volumegrouplaw13.CopiesSettles", spec := "copiesSettles", unfollowed := true, recurses := true, plainKeys := false, apart := false }
def CopiesSettlesSaid : Prop := copiesSettlesRow.holds Try.pinned (OpenSpec.ofChange copiesSettlesSpec)

/-- ITS FALSE NEIGHBOUR: 'it returns false'. Refute it at one input. -/
def copiesSettlesWrong : ChangeSpec := { name := "copiesSettles", fn := fun _ => fun
  | [d] => { results := [.lit (.bool false)], args := [d] }
  | _ => none }
def CopiesSettlesWrongFalsely : Prop := copiesSettlesRow.holds Try.pinned (OpenSpec.ofChange copiesSettlesWrong)

/- THE SECOND FORM. 'bulk': how many values and letters a reading holds, each counted each time it is reached (what is shared counts as often as it is met; a slice's spare places count too). A statement '..UptoSaid' is the law's where the arguments, and the package variables that the reading takes, are together of bulk at most 1048576: NARROWER than '..Said'. Prove '..Said' where nothing that the law and all that it calls make is longer than what came in: it says more and counts as full. Else prove '..UptoSaid'. A law counts once. -/
mutual
def uptoBulk {H : Type} : DataW H → Nat
  | .lit (.string bytes) => bytes.length + 1
  | .lit _ => 1
  | .nil => 1
  | .ptr d => uptoBulk d + 1
  | .slice elems spare => uptoBulkAll elems + uptoBulkAll spare + 1
  | .agg parts => uptoBulkAll parts + 1
  | .iface _ d => uptoBulk d + 1
  | .map entries => uptoBulkEntries entries + 1
  | .held _ => 1
def uptoBulkAll {H : Type} : List (DataW H) → Nat
  | [] => 0
  | d :: r => uptoBulk d + uptoBulkAll r
def uptoBulkEntries {H : Type} : List (Lit × DataW H) → Nat
  | [] => 0
  | x :: r => uptoBulkEntry x + uptoBulkEntries r
def uptoBulkEntry {H : Type} : Lit × DataW H → Nat
  | (.string bytes, d) => bytes.length + uptoBulk d + 1
  | (_, d) => uptoBulk d + 1
 end
def uptoSmall : (H : Type) → List (DataW H) → Bool := fun _ ds => decide (uptoBulkAll ds ≤ 1048576)
def OpenSpec.upto (s : _root_.Go.ChangeSpec) : _root_.Go.OpenSpec := { _root_.Go.OpenSpec.ofChange s with cond := some uptoSmall }

/-- 'volumegrouplaw12.RingTurns', WHERE WHAT IT READS IS OF BULK AT MOST 1048576: true; the input reads as it did. -/
def ringTurnsUptoRow : OpenClaim := { program := "ytkgnkalogghdgaa", sum := "f769b83740920c251efdf892a5849565eb115df62b31b7f629847120ef31d85e", func := "volumegroup/volumegrouplaw12.RingTurns", spec := "ringTurns", unfollowed := true, recurses := true, plainKeys := false, apart := false, narrowed := true }
def RingTurnsUptoSaid : Prop := ringTurnsUptoRow.holds Try.pinned (OpenSpec.upto ringTurnsSpec)

/-- 'volumegrouplaw12.RingCrash', WHERE WHAT IT READS IS OF BULK AT MOST 1048576: true; the input reads as it did. -/
def ringCrashUptoRow : OpenClaim := { program := "ytkgnkalogghdgaa", sum := "f769b83740920c251efdf892a5849565eb115df62b31b7f629847120ef31d85e", func := "volumegroup/volumegrouplaw12.RingCrash", spec := "ringCrash", unfollowed := true, recurses := true, plainKeys := false, apart := false, narrowed := true }
def RingCrashUptoSaid : Prop := ringCrashUptoRow.holds Try.pinned (OpenSpec.upto ringCrashSpec)

/-- 'volumegrouplaw12.RingKeeps', WHERE WHAT IT READS IS OF BULK AT MOST 1048576: true; the input reads as it did. -/
def ringKeepsUptoRow : OpenClaim := { program := "ytkgnkalogghdgaa", sum := "f769b83740920c251efdf892a5849565eb115df62b31b7f629847120ef31d85e", func := "volumegroup/volumegrouplaw12.RingKeeps", spec := "ringKeeps", unfollowed := true, recurses := true, plainKeys := false, apart := false, narrowed := true }
def RingKeepsUptoSaid : Prop := ringKeepsUptoRow.holds Try.pinned (OpenSpec.upto ringKeepsSpec)

/-- 'volumegrouplaw12.RingAreas', WHERE WHAT IT READS IS OF BULK AT MOST 1048576: true; the input reads as it did. -/
def ringAreasUptoRow : OpenClaim := { program := "ytkgnkalogghdgaa", sum := "f769b83740920c251efdf892a5849565eb115df62b31b7f629847120ef31d85e", func := "volumegroup/volumegrouplaw12.RingAreas", spec := "ringAreas", unfollowed := true, recurses := true, plainKeys := false, apart := false, narrowed := true }
def RingAreasUptoSaid : Prop := ringAreasUptoRow.holds Try.pinned (OpenSpec.upto ringAreasSpec)

/-- 'volumegrouplaw12.RingClears', WHERE WHAT IT READS IS OF BULK AT MOST 1048576: true; the input reads as it did. -/
def ringClearsUptoRow : OpenClaim := { program := "ytkgnkalogghdgaa", sum := "f769b83740920c251efdf892a5849565eb115df62b31b7f629847120ef31d85e", func := "volumegroup/volumegrouplaw12.RingClears", spec := "ringClears", unfollowed := true, recurses := true, plainKeys := false, apart := false, narrowed := true }
def RingClearsUptoSaid : Prop := ringClearsUptoRow.holds Try.pinned (OpenSpec.upto ringClearsSpec)

/-- 'volumegrouplaw13.CopiesScan', WHERE WHAT IT READS IS OF BULK AT MOST 1048576: true; the input reads as it did. -/
def copiesScanUptoRow : OpenClaim := { program := "ytkgnkalogghdgaa", sum := "f769b83740920c251efdf892a5849565eb115df62b31b7f629847120ef31d85e", func := "volumegroup/volumegrouplaw13.CopiesScan", spec := "copiesScan", unfollowed := true, recurses := true, plainKeys := false, apart := false, narrowed := true }
def CopiesScanUptoSaid : Prop := copiesScanUptoRow.holds Try.pinned (OpenSpec.upto copiesScanSpec)

/-- 'volumegrouplaw13.CopiesCommits', WHERE WHAT IT READS IS OF BULK AT MOST 1048576: true; the input reads as it did. -/
def copiesCommitsUptoRow : OpenClaim := { program := "ytkgnkalogghdgaa", sum := "f769b83740920c251efdf892a5849565eb115df62b31b7f629847120ef31d85e", func := "volumegroup/volumegrouplaw13.CopiesCommits", spec := "copiesCommits", unfollowed := true, recurses := true, plainKeys := false, apart := false, narrowed := true }
def CopiesCommitsUptoSaid : Prop := copiesCommitsUptoRow.holds Try.pinned (OpenSpec.upto copiesCommitsSpec)

/-- 'volumegrouplaw13.CopiesChoose', WHERE WHAT IT READS IS OF BULK AT MOST 1048576: true; the input reads as it did. -/
def copiesChooseUptoRow : OpenClaim := { program := "ytkgnkalogghdgaa", sum := "f769b83740920c251efdf892a5849565eb115df62b31b7f629847120ef31d85e", func := "volumegroup/volumegrouplaw13.CopiesChoose", spec := "copiesChoose", unfollowed := true, recurses := true, plainKeys := false, apart := false, narrowed := true }
def CopiesChooseUptoSaid : Prop := copiesChooseUptoRow.holds Try.pinned (OpenSpec.upto copiesChooseSpec)

/-- 'volumegrouplaw13.CopiesHistory', WHERE WHAT IT READS IS OF BULK AT MOST 1048576: true; the input reads as it did. -/
def copiesHistoryUptoRow : OpenClaim := { program := "ytkgnkalogghdgaa", sum := "f769b83740920c251efdf892a5849565eb115df62b31b7f629847120ef31d85e", func := "volumegroup/volumegrouplaw13.CopiesHistory", spec := "copiesHistory", unfollowed := true, recurses := true, plainKeys := false, apart := false, narrowed := true }
def CopiesHistoryUptoSaid : Prop := copiesHistoryUptoRow.holds Try.pinned (OpenSpec.upto copiesHistorySpec)

/-- 'volumegrouplaw13.CopiesAgree', WHERE WHAT IT READS IS OF BULK AT MOST 1048576: true; the input reads as it did. -/
def copiesAgreeUptoRow : OpenClaim := { program := "ytkgnkalogghdgaa", sum := "f769b83740920c251efdf892a5849565eb115df62b31b7f629847120ef31d85e", func := "volumegroup/volumegrouplaw13.CopiesAgree", spec := "copiesAgree", unfollowed := true, recurses := true, plainKeys := false, apart := false, narrowed := true }
def CopiesAgreeUptoSaid : Prop := copiesAgreeUptoRow.holds Try.pinned (OpenSpec.upto copiesAgreeSpec)

/-- 'volumegrouplaw13.CopiesSettles', WHERE WHAT IT READS IS OF BULK AT MOST 1048576: true; the input reads as it did. -/
def copiesSettlesUptoRow : OpenClaim := { program := "ytkgnkalogghdgaa", sum := "f769b83740920c251efdf892a5849565eb115df62b31b7f629847120ef31d85e", func := "volumegroup/volumegrouplaw13.CopiesSettles", spec := "copiesSettles", unfollowed := true, recurses := true, plainKeys := false, apart := false, narrowed := true }
def CopiesSettlesUptoSaid : Prop := copiesSettlesUptoRow.holds Try.pinned (OpenSpec.upto copiesSettlesSpec)

end Rows
end Go.Proofs.Ytkgnkalogghdgaa
