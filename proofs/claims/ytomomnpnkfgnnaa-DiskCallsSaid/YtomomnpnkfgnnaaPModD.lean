/- The reference of an array as plain data: its parts, what its calls return and leave. -/
import Derived.Test.YtomomnpnkfgnnaaCLoad
namespace Go.Proofs
open Go.VG
/-- The last of the values that are written to a sector. -/
def lastW (log : List Rec) (d a : Nat) (v : UInt64) : UInt64 := log.foldl (fun v r => if r.d = d ∧ r.a = a then r.v else v) v
/-- The writes of a disk carried out in their order. -/
def setAll (i : Nat) (log : List Rec) (du : List UInt64) : List UInt64 := log.foldl (fun du r => if r.d = i then du.set r.a r.v else du) du
section
variable {d a i : Nat}
theorem lastW_take {log : List Rec} {k : Nat} {v : UInt64} (hk : k < log.length) : lastW (log.take (k + 1)) d a v = if (log.getD k r0).d = d ∧ (log.getD k r0).a = a then (log.getD k r0).v else lastW (log.take k) d a v := by
  rw [takeR log k hk, lastW, List.foldl_append]; rfl
theorem setAll_take {log : List Rec} {k : Nat} {du : List UInt64} (hk : k < log.length) : setAll i (log.take (k + 1)) du = if (log.getD k r0).d = i then (setAll i (log.take k) du).set (log.getD k r0).a (log.getD k r0).v else setAll i (log.take k) du := by
  rw [takeR log k hk, setAll, List.foldl_append]; rfl
end
structure ModS where
  st : List (List UInt64)
  wr : List Rec
  mi : List Bool
  ba : List (List Bool)
  dn : Bool
  fu : Nat
  ct : Nat
def ModS.size (m : ModS) (i : Nat) : Nat := (m.st.getD i []).length
structure ModWF (m : ModS) : Prop where
  cnt : m.st.length ≤ 8
  mi : m.mi.length = m.st.length
  ba : m.ba.length = m.st.length
  row : ∀ i, i < m.st.length → (m.ba.getD i []).length = m.size i ∧ m.size i ≤ 65536
  wr : ∀ k, k < m.wr.length → (m.wr.getD k r0).d < m.st.length ∧ (m.wr.getD k r0).a < m.size (m.wr.getD k r0).d
  len : m.wr.length ≤ m.ct
  fu : m.fu ≤ 9223372036854775807
def mHas (m : ModS) (d a : Int) : Prop := (0 ≤ d ∧ d < (m.st.length : Int)) ∧ 0 ≤ a ∧ a < (m.size d.toNat : Int)
instance (m : ModS) (d a : Int) : Decidable (mHas m d a) := by unfold mHas; infer_instance
def mNow (m : ModS) (i k : Nat) : UInt64 := lastW m.wr i k ((m.st.getD i []).getD k 0)
def mRdE (m : ModS) (d a : Int) : Int := if m.dn then 5 else if mHas m d a then (if m.mi.getD d.toNat false then 6 else if (m.ba.getD d.toNat []).getD a.toNat false then 7 else 0) else 1
def mRdV (m : ModS) (d a : Int) : UInt64 := if mRdE m d a = 0 then mNow m d.toNat a.toNat else 0
def mWrC (m : ModS) (d a : Int) : Int := if m.dn then 5 else if mHas m d a then (if m.mi.getD d.toNat false then 6 else 0) else 1
def mWrE (m : ModS) (d a : Int) : Int := if mWrC m d a ≠ 0 then mWrC m d a else if m.fu = 1 then 5 else 0
def mWrS (m : ModS) (d a : Int) (v : UInt64) : ModS :=
  if mWrC m d a ≠ 0 then m
  else if m.fu = 1 then { m with dn := true, fu := 0 }
  else { m with ba := m.ba.set d.toNat ((m.ba.getD d.toNat []).set a.toNat false), wr := m.wr ++ [⟨d.toNat, a.toNat, v⟩], fu := m.fu - 1, ct := m.ct + 1 }
/-- One write made durable. -/
def putR (st : List (List UInt64)) (r : Rec) : List (List UInt64) := st.set r.d ((st.getD r.d []).set r.a r.v)
/-- Writes settled from number n on: those of disk d (of all disks if d is negative), all or those that are kept. -/
def stGo (d : Int) (all : Bool) (ks : List Bool) : Nat → List Rec → List (List UInt64) → List (List UInt64)
  | _, [], st => st
  | n, r :: log, st => stGo d all ks (n + 1) log (if 0 ≤ d ∧ (r.d : Int) ≠ d then st else if all = true ∨ ks.getD n false = true then putR st r else st)
def rest (d : Int) (log : List Rec) : List Rec := log.filter fun r => decide (0 ≤ d ∧ (r.d : Int) ≠ d)
def mSet (m : ModS) (d : Int) (all : Bool) (ks : List Bool) : ModS := { m with st := stGo d all ks 0 m.wr m.st, wr := rest d m.wr }
def mIn (m : ModS) (d : Int) : Prop := 0 ≤ d ∧ d < (m.st.length : Int)
instance (m : ModS) (d : Int) : Decidable (mIn m d) := by unfold mIn; infer_instance
def mFlC (m : ModS) (d : Int) : Int := if m.dn then 5 else if mIn m d then (if m.mi.getD d.toNat false then 6 else 0) else 1
def mFlS (m : ModS) (d : Int) : ModS := if mFlC m d ≠ 0 then m else mSet m d true []
def mFuS (m : ModS) (n : Int) : ModS := { m with fu := n.toNat }
def mRsS (m : ModS) (ks : List Bool) : ModS := { mSet m (-1) false ks with dn := false, fu := 0 }
def mSmC (m : ModS) (d : Int) : Int := if mIn m d then 0 else 1
def mSmS (m : ModS) (d : Int) (t : Bool) : ModS := if mIn m d then { m with mi := m.mi.set d.toNat t } else m
def mSbC (m : ModS) (d a : Int) : Int := if mHas m d a then 0 else 1
def mSbS (m : ModS) (d a : Int) (t : Bool) : ModS := if mHas m d a then { m with ba := m.ba.set d.toNat ((m.ba.getD d.toNat []).set a.toNat t) } else m
def mImL (m : ModS) (d : Int) : List UInt64 := if mIn m d then setAll d.toNat m.wr (m.st.getD d.toNat []) else []
def mLdC (m : ModS) (d : Int) (im : List UInt64) : Int := if mIn m d then (if im.length = m.size d.toNat then 0 else 3) else 1
def mLdS (m : ModS) (d : Int) (im : List UInt64) : ModS :=
  if mLdC m d im = 0 then { m with st := (stGo d false [] 0 m.wr m.st).set d.toNat im, wr := rest d m.wr, ba := m.ba.set d.toNat (List.replicate im.length false) } else m
def mNewS (zs : List Int) : ModS := ⟨zs.map fun z => List.replicate z.toNat 0, [], zs.map fun _ => false, zs.map fun z => List.replicate z.toNat false, false, 0, 0⟩
end Go.Proofs
