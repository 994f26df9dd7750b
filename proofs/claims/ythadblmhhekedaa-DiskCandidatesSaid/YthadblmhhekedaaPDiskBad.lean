/- DiskBad: a bad sector, by going through the four sectors. -/
import Derived.Test.YthadblmhhekedaaLDiskBad
import Derived.Test.YthadblmhhekedaaPMake
namespace Go.Proofs
open Go.VG
theorem awake04 : volumegrouplaw04_awake = some true := by kernel_rfl
theorem diskBad (at_0 : UInt8) (v : UInt64) (keep : Bool) : volumegrouplaw04_DiskBad at_0 v keep = some true := by
  have hk : (at_0 % 4).toNat < 4 := by rw [UInt8.toNat_mod]; exact Nat.mod_lt _ (by decide)
  unfold volumegrouplaw04_DiskBad
  generalize (at_0 % 4).toNat = k at hk
  have hc : k = 0 ∨ k = 1 ∨ k = 2 ∨ k = 3 := by omega
  have e1 : volumegroupmake_Words (4 : Int) (9 : UInt64) = some (wordsL 4 9) := words_eq (n := 4) (by omega)
  rw [e1]; simp only [Option.bind_some]
  rw [loaded_eq (by simp) (by intro im h; simp only [List.mem_cons, List.not_mem_nil, or_false] at h; subst h; simp)]
  simp only [Option.bind_some, Option.elim_some, lt]
  cases keep
  all_goals
    rcases hc with rfl | rfl | rfl | rfl
    all_goals
      rw [if_neg (by decide +kernel), if_neg (by decide +kernel), if_neg (by decide +kernel), grd_t (by decide +kernel), if_neg (by decide +kernel), grd_t (by kernel_rfl)]
      rw [if_pos ⟨by kernel_rfl, by first | exact .inl ⟨rfl, by kernel_rfl⟩ | exact .inr ⟨by decide, by kernel_rfl⟩⟩, awake04]; rfl
end Go.Proofs
