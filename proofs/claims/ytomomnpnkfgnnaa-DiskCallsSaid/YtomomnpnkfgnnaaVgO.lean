/- Numbers that come in, as words. -/
import Derived.Test.YtomomnpnkfgnnaaVgG
import Derived.Test.YtomomnpnkfgnnaaVgN
namespace Go.VG
theorem of_wf_u8 {a : Int} (h : (Lit.int .u8 a).wf = true) : ∃ v : UInt8, a = (v.toNat : Int) := by
  have h1 := bounds_u8 h
  exact ⟨UInt8.ofNat a.toNat, by simp only [UInt8.toNat_ofNat']; omega⟩
theorem of_wf_u16 {a : Int} (h : (Lit.int .u16 a).wf = true) : ∃ v : UInt16, a = (v.toNat : Int) := by
  have h1 := bounds_u16 h
  exact ⟨UInt16.ofNat a.toNat, by simp only [UInt16.toNat_ofNat']; omega⟩
theorem of_wf_u32 {a : Int} (h : (Lit.int .u32 a).wf = true) : ∃ v : UInt32, a = (v.toNat : Int) := by
  have h1 := bounds_u32 h
  exact ⟨UInt32.ofNat a.toNat, by simp only [UInt32.toNat_ofNat']; omega⟩
theorem of_wf_u64 {a : Int} (h : (Lit.int .u64 a).wf = true) : ∃ v : UInt64, a = (v.toNat : Int) := by
  have h1 := bounds_u64 h
  exact ⟨UInt64.ofNat a.toNat, by simp only [UInt64.toNat_ofNat']; omega⟩
end Go.VG
