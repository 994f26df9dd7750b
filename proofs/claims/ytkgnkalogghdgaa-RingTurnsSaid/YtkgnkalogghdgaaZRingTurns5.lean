/- RingTurns, part 5 of the proof: PRingTurns. -/
import Derived.WalkKit
import Derived.Orders
import Derived.RangeFuncLeaves
import Derived.RangeFuncCalls
import Derived.TacticsIn
import Derived.Handy
import Derived.OrdersHeld
import Derived.OrdersIn
import Derived.Below
import Derived.OpenShut
import Derived.Deep.Slices
import Derived.Scope
import Derived.KernelRfl
import Derived.RangeFuncRecord
import Derived.ChangeKeysEq
import Derived.Laws.BytesArg
import Derived.ProofKit
import Derived.ShutString
import Derived.ChangeOld
import Derived.Test.YtkgnkalogghdgaaChecked
import Derived.Test.YtkgnkalogghdgaaRows
import Derived.Test.YtkgnkalogghdgaaZRingTurns4
namespace Go.Proofs
open Go.VG
theorem turns_l4 {k m : Nat} (hk : k ≤ 100) (hm : m ≤ 100) : ∀ (N i : Nat) (l : List UInt8), l.length = m → m - i < N → i ≤ m → ∃ l', l'.length = m ∧ volumegrouplaw12_RingTurns_l4 k N l i = some l'
  | 0, _, _, _, h, _ => absurd h (by omega)
  | N + 1, i, l, hl, h, hi => by
    have e : volumegrouplaw12_RingTurns_l4 k (N + 1) l i = volumegrouplaw12_RingTurns_l4_b k (volumegrouplaw12_RingTurns_l4 k N) l i := rfl
    rw [e]
    unfold volumegrouplaw12_RingTurns_l4_b
    by_cases hlt : i < m
    · rw [if_pos (by omega), grd_pos (inN64_of (by omega))]
      exact turns_l4 hk hm N (i + 1) _ (by rw [List.length_set, hl]) (by omega) (by omega)
    · rw [if_neg (by omega)]
      exact ⟨l, hl, rfl⟩
theorem turns_l3 {sizes : List UInt8} (hT : sizes.length ≤ 30) : ∀ (N i K : Nat) (s : ArrS) (c : Option Txt), sizes.length - i < N → N ≤ FUEL → i ≤ sizes.length → Lv [22] K 0 22 s → s.fuse = 0 → K ≤ 20 * i →
    Hold (now s 0) (rgR 22) 0 c → oLen c ≤ 10 → ∃ t, volumegrouplaw12_RingTurns_l3 sizes (Dk 0 22) N s i = some (.inl t)
  | 0, _, _, _, _, h, _, _, _, _, _, _, _ => absurd h (by omega)
  | N + 1, i, K, s, c, h, hN, hi, hL, hf, hK, h0, hc => by
    have e : volumegrouplaw12_RingTurns_l3 sizes (Dk 0 22) (N + 1) s i = volumegrouplaw12_RingTurns_l3_b sizes (Dk 0 22) (volumegrouplaw12_RingTurns_l3 sizes (Dk 0 22) N) s i := rfl
    rw [e]
    unfold volumegrouplaw12_RingTurns_l3_b
    by_cases hlt : i < sizes.length
    · rw [if_pos (by omega)]
      have hm : (sizes.getD i 0 % (73 : UInt8)).toNat < 73 := by
        rw [UInt8.toNat_mod]; exact Nat.mod_lt _ (by decide)
      generalize (sizes.getD i 0 % (73 : UInt8)).toNat = m at hm
      rw [grd_pos (inLen_of (by omega))]
      have hF := fuel_big
      obtain ⟨l, hl, h1⟩ := turns_l4 (k := i) (m := m) (by omega) (by omega) FUEL 0 (List.replicate m 0) (by simp) (by omega) (by omega)
      rw [h1]; simp only [Option.bind_some]
      have hx : (strOf l).size = m := by rw [strSize_of, hl]
      generalize strOf l = x at hx ⊢
      have hle : (encT x).length ≤ 10 := by rw [encT_len]; unfold bytesN; omega
      have hr : rgR 22 = 20 := rfl
      rcases prep_hold hL (by omega) h0 (q := i + 1) (x := x) (by omega) (by omega) with ⟨h2, _⟩ | ⟨_, ⟨t, h2, h3, h4, h5, h6⟩ | ⟨h2, _⟩⟩
      · omega
      · rw [h2]; simp only [Option.bind_some]
        rw [if_neg (by simp)]
        have hft : t.fuse = 0 := by rw [h3.fuse, hf]; omega
        rcases switch_hold h4 (by omega) h6 with ⟨_, u, k1, k2, k3, k4⟩ | ⟨k1, _⟩
        · rw [k1]; simp only [Option.bind_some]
          rw [if_neg (by simp), read_hold k3 k4]; simp only [Option.bind_some]
          rw [if_neg (by simp), if_neg (by simp)]
          exact turns_l3 hT N (i + 1) _ u _ (by omega) (by omega) (by omega) k3 (by rw [k2.fuse, hft]) (by omega) k4 hle
        · omega
      · exact absurd hf h2
    · rw [if_neg (by omega)]
      exact ⟨s, rfl⟩
theorem PRingTurns (sizes : List UInt8) : volumegrouplaw12_RingTurns sizes = some true := by
  unfold volumegrouplaw12_RingTurns
  by_cases hT : 30 < sizes.length
  · rw [if_pos (by omega), awake12]; rfl
  · rw [if_neg (by omega), area_eq (by simp)]; simp only [Option.bind_some, Option.elim, List.length_replicate]
    have hL := lv_mkS (w := List.replicate 22 0) (by simp) (by simp)
    rw [List.length_replicate] at hL
    have hH : Hold (now (mkS [List.replicate 22 0]) 0) (rgR 22) 0 none := by rw [now_mkS]; exact hold_zeros
    have hF := fuel_big
    obtain ⟨t, h1⟩ := turns_l3 (sizes := sizes) (by omega) FUEL 0 0 _ none (by omega) (Nat.le_refl _) (by omega) hL rfl (by omega) hH (by show 0 ≤ 10; omega)
    rw [h1]
    simp only [seqO, Option.bind_some, Sum.elim_inl]
    rw [awake12]; rfl
end Go.Proofs
