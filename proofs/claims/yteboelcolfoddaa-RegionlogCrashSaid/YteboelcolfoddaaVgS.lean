/- YteboelcolfoddaaVgS: contracts of functions of the program, walked rule by rule; printed by vg.py. -/
import Derived.Test.YteboelcolfoddaaVgT
import Derived.Test.YteboelcolfoddaaVgJ
set_option linter.unusedSimpArgs false
set_option maxRecDepth 20000
namespace Go.Proofs
open Go.VG
open Go.ChangeShapes Go.WideShapes Go.ChangeAt Go.RowKit
theorem shown_tyI : Shown Try.prog 3 tyI := fun H enc w base spare held n cs x h => by
  obtain ⟨m, rfl, _, _⟩ := DataW.trod_int Try.underlying3 h; exact ⟨m, rfl⟩
theorem shown_tyB : Shown Try.prog 4 tyB := fun H enc w base spare held n cs x h => by
  obtain ⟨m, rfl, _⟩ := DataW.trod_bool Try.underlying4 h; exact ⟨m, rfl⟩
theorem shown_tyU : Shown Try.prog 27 tyU := fun H enc w base spare held n cs x h => by
  obtain ⟨m, rfl, _, hw⟩ := DataW.trod_int Try.underlying27 h
  have hb := bounds_u64 hw
  refine ⟨UInt64.ofNat m.toNat, ?_⟩
  have : ((UInt64.ofNat m.toNat).toNat : Int) = m := by
    rw [UInt64.toNat_ofNat', Nat.mod_eq_of_lt (by omega)]; omega
  show [Value.int .u64 m] = [Value.int .u64 ((UInt64.ofNat m.toNat).toNat : Int)]
  rw [this]

end Go.Proofs
