/- YtomomnpnkfgnnaaVgS: contracts of functions of the program, walked rule by rule; printed by vg.py. -/
import Derived.Test.YtomomnpnkfgnnaaVgT
import Derived.Test.YtomomnpnkfgnnaaVgJ
set_option linter.unusedSimpArgs false
set_option maxRecDepth 20000
namespace Go.Proofs
open Go.VG
open Go.ChangeShapes Go.WideShapes Go.ChangeAt Go.RowKit
theorem shown_tyI : Shown Try.prog 3 tyI := fun H enc w base spare held n cs x h => by
  obtain ⟨m, rfl, _, _⟩ := DataW.trod_int Try.underlying3 h; exact ⟨m, rfl⟩
theorem shown_tyB : Shown Try.prog 4 tyB := fun H enc w base spare held n cs x h => by
  obtain ⟨m, rfl, _⟩ := DataW.trod_bool Try.underlying4 h; exact ⟨m, rfl⟩
theorem shown_tyU : Shown Try.prog 26 tyU := fun H enc w base spare held n cs x h => by
  obtain ⟨m, rfl, _, hw⟩ := DataW.trod_int Try.underlying26 h
  have hb := bounds_u64 hw
  refine ⟨UInt64.ofNat m.toNat, ?_⟩
  have : ((UInt64.ofNat m.toNat).toNat : Int) = m := by
    rw [UInt64.toNat_ofNat', Nat.mod_eq_of_lt (by omega)]; omega
  show [Value.int .u64 m] = [Value.int .u64 ((UInt64.ofNat m.toNat).toNat : Int)]
  rw [this]
structure Call4V where
  f0 : Int
  f1 : Int
  f2 : Int
  f3 : UInt64
  f4 : Bool
abbrev tyCall4 : Ty Call4V := { T := 28, sz := 5, enc := fun x => [.int .i64 x.f0, .int .i64 x.f1, .int .i64 x.f2, .int .u64 (x.f3.toNat : Int), .bool x.f4], dflt := ⟨0, 0, 0, 0, false⟩, len := fun _ => rfl, one := fun _ => rfl, pos := by decide }
theorem shown_tyCall4 : Shown Try.prog 28 tyCall4 := fun H enc w base spare held n cs x h => by
  obtain ⟨xs, n', _, _, hcl, hxl, hf⟩ := DataW.trod_struct Try.underlying28 h
  have hc : cs.length = 5 := hcl.trans (by kernel_rfl)
  have hl : xs.length = 5 := hxl
  obtain ⟨y0, h0⟩ := shown_fld shown_tyI (hf 0 _ rfl) (by omega)
  obtain ⟨y1, h1⟩ := shown_fld shown_tyI (hf 1 _ rfl) (by omega)
  obtain ⟨y2, h2⟩ := shown_fld shown_tyI (hf 2 _ rfl) (by omega)
  obtain ⟨y3, h3⟩ := shown_fld shown_tyU (hf 3 _ rfl) (by omega)
  obtain ⟨y4, h4⟩ := shown_fld shown_tyB (hf 4 _ rfl) (by omega)
  match cs, hc with
  | [c0, c1, c2, c3, c4], _ =>
    change List.take (Try.prog.cellsOf 3) (List.drop 0 _) = _ at h0
    rw [show Try.prog.cellsOf 3 = 1 by kernel_rfl] at h0
    obtain rfl := (List.cons.inj (show [c0] = tyI.enc y0 from h0)).1
    change List.take (Try.prog.cellsOf 3) (List.drop 1 _) = _ at h1
    rw [show Try.prog.cellsOf 3 = 1 by kernel_rfl] at h1
    obtain rfl := (List.cons.inj (show [c1] = tyI.enc y1 from h1)).1
    change List.take (Try.prog.cellsOf 3) (List.drop 2 _) = _ at h2
    rw [show Try.prog.cellsOf 3 = 1 by kernel_rfl] at h2
    obtain rfl := (List.cons.inj (show [c2] = tyI.enc y2 from h2)).1
    change List.take (Try.prog.cellsOf 26) (List.drop 3 _) = _ at h3
    rw [show Try.prog.cellsOf 26 = 1 by kernel_rfl] at h3
    obtain rfl := (List.cons.inj (show [c3] = tyU.enc y3 from h3)).1
    change List.take (Try.prog.cellsOf 4) (List.drop 4 _) = _ at h4
    rw [show Try.prog.cellsOf 4 = 1 by kernel_rfl] at h4
    obtain rfl := (List.cons.inj (show [c4] = tyB.enc y4 from h4)).1
    exact ⟨⟨y0, y1, y2, y3, y4⟩, rfl⟩

end Go.Proofs
