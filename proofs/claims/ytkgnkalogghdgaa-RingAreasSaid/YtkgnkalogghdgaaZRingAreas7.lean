/- RingAreas, part 7 of the proof: PRingAreas. -/
import Derived.WalkKit
import Derived.Orders
import Derived.RangeFuncLeaves
import Derived.RangeFuncCalls
import Derived.TacticsIn
import Derived.Handy
import Derived.OrdersHeld
import Derived.OrdersIn
import Derived.Below
import Derived.OpenShut
import Derived.Deep.Slices
import Derived.Scope
import Derived.KernelRfl
import Derived.RangeFuncRecord
import Derived.ChangeKeysEq
import Derived.Laws.BytesArg
import Derived.ProofKit
import Derived.ShutString
import Derived.ChangeOld
import Derived.Test.YtkgnkalogghdgaaChecked
import Derived.Test.YtkgnkalogghdgaaRows
import Derived.Test.YtkgnkalogghdgaaZRingAreas6
namespace Go.Proofs
open Go.VG
theorem new_ok (l : List Int) : ∃ L, volumegroupmake_New l = some (L, 0) ∧ L.length ≤ 1000 := by
  unfold volumegroupmake_New
  by_cases h : (1000 : Int) < ((l.length : Nat) : Int)
  · rw [if_pos h]; exact ⟨_, rfl, by simp; omega⟩
  · rw [if_neg h]; exact ⟨_, rfl, by omega⟩
theorem raw_ok {L : List Int} {a : Int} (hL : L.length ≤ 1000) (h : 0 ≤ a ∧ a ≤ 1000) : ∃ v b, volumegroupmake_Src_Raw L a = some (v, b) ∧ 0 ≤ b ∧ b ≤ 1000 := by
  unfold volumegroupmake_Src_Raw
  by_cases h1 : ((L.length : Nat) : Int) ≤ a
  · rw [if_pos h1]; exact ⟨_, _, rfl, h.1, h.2⟩
  · rw [if_neg h1, grd_t (inI64_of (by omega)), grd_t (inI64_of (by omega)), grd_t (decide_eq_true (by omega))]
    exact ⟨_, _, rfl, by omega, by omega⟩
theorem srcN_ok {L : List Int} {a n : Int} (hL : L.length ≤ 1000) (h : 0 ≤ a ∧ a ≤ 1000) (hn : n ≤ 1000000000) : ∃ v b, volumegroupmake_Src_N L a n = some (v, b) ∧ (0 ≤ b ∧ b ≤ 1000) ∧ 0 ≤ v ∧ (1 ≤ n → v < n) ∧ (n < 1 → v = 0) := by
  unfold volumegroupmake_Src_N
  by_cases h1 : n < 1
  · rw [if_pos h1]; exact ⟨_, _, rfl, h, Int.le_refl _, fun x => by omega, fun _ => rfl⟩
  · rw [if_neg h1]
    obtain ⟨v, b, h2, h3⟩ := raw_ok hL h
    rw [h2]; simp only [Option.bind_some]
    have h4 := Int.natAbs_tmod v n
    have h5 := Nat.mod_lt v.natAbs (show 0 < n.natAbs by omega)
    by_cases h6 : v.tmod n < 0
    · rw [if_pos h6, grd_t (inI64_of (by omega))]
      exact ⟨_, _, rfl, h3, by omega, fun _ => by omega, fun x => by omega⟩
    · rw [if_neg h6]
      exact ⟨_, _, rfl, h3, by omega, fun _ => by omega, fun x => by omega⟩
theorem srcRange_ok {L : List Int} {a lo hi : Int} (hL : L.length ≤ 1000) (h : 0 ≤ a ∧ a ≤ 1000) (h1 : -1000000 ≤ lo ∧ lo ≤ hi ∧ hi ≤ 1000000) : ∃ v b, volumegroupmake_Src_Range L a lo hi = some (v, b) ∧ (0 ≤ b ∧ b ≤ 1000) ∧ lo ≤ v ∧ v ≤ hi := by
  unfold volumegroupmake_Src_Range
  obtain ⟨v, b, h2, h3, h4, h5, -⟩ := srcN_ok (n := hi - lo + 1) hL h (by omega)
  have := h5 (by omega)
  rw [grd_t (inI64_of (by omega)), grd_t (inI64_of (by omega)), h2]; simp only [Option.bind_some]
  rw [grd_t (inI64_of (by omega))]
  exact ⟨_, _, rfl, h3, by omega, by omega⟩
theorem srcWord_ok {L : List Int} {a : Int} {l : List ByteArray} (hL : L.length ≤ 1000) (h : 0 ≤ a ∧ a ≤ 1000) (hl : 1 ≤ l.length ∧ l.length ≤ 1000) : ∃ (v : Nat) (b : Int), volumegroupmake_Src_Word L a l = some (l.getD v ByteArray.empty, b) ∧ (0 ≤ b ∧ b ≤ 1000) ∧ v < l.length := by
  unfold volumegroupmake_Src_Word
  obtain ⟨v, b, h2, h3, h4, h5, -⟩ := srcN_ok (n := ((l.length : Nat) : Int)) hL h (by omega)
  have := h5 (by omega)
  rw [h2]; simp only [Option.bind_some]
  rw [grd_pos (decide_eq_true (by omega))]
  exact ⟨v.toNat, b, rfl, h3, by omega⟩
theorem built_l1 {L : List Int} {n : Nat} (hL : L.length ≤ 1000) (hn : 4 ≤ n ∧ n ≤ 1000) : ∀ (N : Nat) (p : Int) (X : List UInt64) (c : Int), c.toNat < N → c ≤ 100 → (0 ≤ p ∧ p ≤ 1000) → X.length = n →
    ∃ X' p', volumegrouplaw12_built_l1 L N p X c = some (X', p') ∧ X'.length = n ∧ 0 ≤ p' ∧ p' ≤ 1000
  | 0, _, _, _, h, _, _, _ => absurd h (by omega)
  | N + 1, p, X, c, h, hc, hp, hX => by
    have e : volumegrouplaw12_built_l1 L (N + 1) p X c = volumegrouplaw12_built_l1_b L (volumegrouplaw12_built_l1 L N) p X c := rfl
    rw [e]
    unfold volumegrouplaw12_built_l1_b
    by_cases h0 : 0 < c
    · rw [if_pos h0]
      obtain ⟨v, b, h1, hb, hv0, hv1, -⟩ := srcN_ok (L := L) (a := p) (n := 1048575) hL hp (by omega)
      have hv2 := hv1 (by omega)
      rw [h1]; simp only [Option.bind_some]
      rw [grd_pos (inI64_of (by omega))]
      obtain ⟨k, b2, h2, hb2, _⟩ := srcWord_ok (L := L) (a := b) (l := [(ByteArray.mk #[]), (ByteArray.mk #[97]), (ByteArray.mk #[101, 105, 103, 104, 116, 32, 98, 121]), (ByteArray.mk #[115, 111, 109, 101, 32, 108, 111, 110, 103, 101, 114, 32, 116, 101, 120, 116, 32, 111, 102, 32, 116, 104, 101, 32, 103, 114, 111, 117, 112]), (ByteArray.mk #[118, 103, 32, 123, 32, 115, 101, 113, 32, 61, 32, 49, 32, 125])]) hL hb (by simp)
      rw [h2]; simp only [Option.bind_some]
      generalize List.getD [_, _, _, _, _] k ByteArray.empty = x
      subst hX
      obtain ⟨out, e, t, p1, _, _, _, p5, _⟩ := prep_agree (w := X) hn.1 hn.2 (1 + v) x
      rw [p1]; simp only [Option.bind_some]
      by_cases he : e = 0
      · rw [if_pos he]
        have ho := (p5 he).1
        obtain ⟨v3, b3, h3, hb3, _⟩ := srcN_ok (L := L) (a := b2) (n := 4) hL hb2 (by omega)
        rw [h3]; simp only [Option.bind_some]
        by_cases h4 : 0 < v3
        · rw [if_pos h4, grd_pos (decide_eq_true (by omega)), grd_pos (decide_eq_true (by omega)), grd_pos (inI64_of (by omega))]
          exact built_l1 hL hn N b3 _ (c - 1) (by omega) (by omega) hb3 (by rw [List.length_set, ho])
        · rw [if_neg h4, grd_pos (inI64_of (by omega))]
          exact built_l1 hL hn N b3 _ (c - 1) (by omega) (by omega) hb3 ho
      · rw [if_neg he, grd_pos (inI64_of (by omega))]
        exact built_l1 hL hn N b2 _ (c - 1) (by omega) (by omega) hb2 rfl
    · rw [if_neg h0]
      exact ⟨X, p, rfl, hX, hp.1, hp.2⟩
theorem built_ok {L : List Int} {n : Nat} {p : Int} (hL : L.length ≤ 1000) (hn : 4 ≤ n ∧ n ≤ 1000) (hp : 0 ≤ p ∧ p ≤ 1000) : ∃ X p', volumegrouplaw12_built L p (n : Int) = some (X, p') ∧ X.length = n ∧ 0 ≤ p' ∧ p' ≤ 1000 := by
  unfold volumegrouplaw12_built
  rw [grd_pos (decide_eq_true (by omega)), show ((n : Nat) : Int).toNat = n by omega]
  obtain ⟨v1, b1, h1, hb1, hv1, hw1, -⟩ := srcN_ok (L := L) (a := p) (n := 5) hL hp (by omega)
  have := hw1 (by omega)
  rw [h1]; simp only [Option.bind_some]
  have hF := fuel_big
  generalize FUEL = N at hF ⊢
  obtain ⟨X, b2, h2, hX, hb2⟩ := built_l1 (L := L) hL hn N b1 (List.replicate n 0) v1 (by omega) (by omega) hb1 (by simp)
  rw [h2]; simp only [Option.bind_some]
  obtain ⟨v3, b3, h3, hb3, hv3, hw3, -⟩ := srcN_ok (L := L) (a := b2) (n := 6) hL hb2 (by omega)
  rw [h3]; simp only [Option.bind_some]
  by_cases e0 : v3 = 0
  · rw [if_pos e0]
    obtain ⟨v4, b4, h4, hb4, hv4, hw4, -⟩ := srcN_ok (L := L) (a := b3) (n := (n : Int)) hL hb3 (by omega)
    have := hw4 (by omega)
    rw [h4]; simp only [Option.bind_some]
    rw [grd_pos (decide_eq_true (by omega))]
    obtain ⟨v5, b5, h5, hb5, hv5, _⟩ := srcN_ok (L := L) (a := b4) (n := 64) hL hb4 (by omega)
    rw [h5]; simp only [Option.bind_some]
    rw [grd_pos (decide_eq_true hv5), grd_pos (decide_eq_true (by omega))]
    exact ⟨_, b5, rfl, by rw [List.length_set, hX], hb5.1, hb5.2⟩
  · rw [if_neg e0]
    by_cases e1 : v3 = 1
    · rw [if_pos e1]
      obtain ⟨v4, b4, h4, hb4, hv4, hw4, -⟩ := srcN_ok (L := L) (a := b3) (n := 2) hL hb3 (by omega)
      have := hw4 (by omega)
      rw [h4]; simp only [Option.bind_some]
      obtain ⟨v5, b5, h5, hb5⟩ := raw_ok (L := L) (a := b4) hL hb4
      rw [h5]; simp only [Option.bind_some]
      rw [grd_pos (decide_eq_true (by omega))]
      exact ⟨_, b5, rfl, by rw [List.length_set, hX], hb5.1, hb5.2⟩
    · rw [if_neg e1]
      exact ⟨X, b3, rfl, hX, hb3.1, hb3.2⟩
theorem rread_eq {w : List UInt64} (h4 : 4 ≤ w.length) (hb : w.length ≤ 1000) : volumegroupref12_Read w = some (readR (listA w) (rgR w.length)) := by
  unfold volumegroupref12_Read readR
  rw [if_neg (by omega)]
  by_cases h0 : w.getD 0 0 = 0
  · rw [if_pos h0, if_pos (show listA w 0 = 0 from h0)]
  · rw [if_neg h0, if_neg (show ¬ listA w 0 = 0 from h0), rwhole_eq (by omega) hb]; simp only [Option.bind_some]
    by_cases hw : (wholeR (listA w) (rgR w.length) (w.getD 0 0)).2 = true
    · rw [if_neg (by simpa using hw), if_pos (show (wholeR (listA w) (rgR w.length) (listA w 0)).2 = true from hw), rsplit_eq]; rfl
    · rw [if_pos hw, if_neg (show ¬ (wholeR (listA w) (rgR w.length) (listA w 0)).2 = true from hw), rsplit_eq]; rfl
theorem agrees_tail {n K : Nat} {t : ArrS} {z : List UInt64} (hT : Lv [n] K 0 n t) (hK : K ≤ 800000) (hf : t.fuse = 0) (hz : z.length = n) (hnow : now t 0 = listA z) :
    (grd (decide (1 < ((imL t (0 : Int))).length)) <|
      Option.bind (volumegroupref12_Whole ((imL t (0 : Int))) ((((imL t (0 : Int))).getD 1 0))) fun r92 =>
      Option.bind (ring_Switch (Dk 0 n) t) fun r94 =>
      if ((imC r94.2 (0 : Int)) ≠ (0 : Int)) then
        some false
      else
        if (((r94.2.log.length : Nat) : Int) ≠ (0 : Int)) then
          some false
        else
          grd (decide (1 < ((imL t (0 : Int))).length)) <|
          if ((((imL t (0 : Int))).getD 1 0) = (0 : UInt64)) then
            if (r94.1 = (12 : Int)) then
              Option.bind (volumegroupref02_Same ((imL r94.2 (0 : Int))) ((imL t (0 : Int)))) fun r99 =>
              some r99
            else
              some false
          else
            if (¬ r92.2 = true) then
              if (r94.1 = (11 : Int)) then
                Option.bind (volumegroupref02_Same ((imL r94.2 (0 : Int))) ((imL t (0 : Int)))) fun r101 =>
                some r101
              else
                some false
            else
              grd (decide (1 < ((imL t (0 : Int))).length)) <|
              grd (decide (0 < ((imL t (0 : Int))).length)) <|
              if (r94.1 = (0 : Int)) then
                Option.bind (volumegroupref02_Same ((imL r94.2 (0 : Int))) ((((imL t (0 : Int))).set 0 ((((imL t (0 : Int))).getD 1 0))))) fun r103 =>
                some r103
              else
                some false) = some true := by
  have h4 := hT.h4; have hb := hT.hb
  have him : imL t (0 : Int) = z := hT.im_eq hz fun b _ => by rw [hnow]
  have h1 : now t 0 1 = z.getD 1 0 := by rw [hnow]
  have hS : ∀ {x : List UInt64}, x.length ≤ 1000 → volumegroupref02_Same x x = some true := fun {x} hx => by rw [same02_eq (by omega)]; simp
  rw [him, grd_pos (decide_eq_true (by omega)), rwhole_eq (by omega) (by omega)]; simp only [Option.bind_some]
  rw [hz]
  by_cases h0 : z.getD 1 0 = 0
  · rw [switch_none hT (by rw [h1, h0])]; simp only [Option.bind_some]
    rw [hT.imC0, if_neg (by simp), hT.log0, if_neg (by simp), grd_pos (decide_eq_true (by omega)), if_pos h0, if_pos trivial, him, hS (by omega)]; rfl
  · by_cases hw : (wholeR (listA z) (rgR n) (z.getD 1 0)).2 = true
    · rcases switch_out hT (by rw [h1]; exact h0) (by rw [h1, hnow]; exact hw) with ⟨_, u, s1, s2⟩ | ⟨s1, _⟩
      rotate_left
      · omega
      rw [s1]; simp only [Option.bind_some]
      have hU := s2.lv hT (by omega)
      have hiu : imL u (0 : Int) = z.set 0 (z.getD 1 0) := hU.im_eq (by rw [List.length_set, hz]) fun b _ => by rw [s2.nowD, h1, hnow, listA_set (by omega)]
      rw [hU.imC0, if_neg (by simp), hU.log0, if_neg (by simp), grd_pos (decide_eq_true (by omega)), if_neg h0, if_neg (by simpa using hw), grd_pos (decide_eq_true (by omega)), grd_pos (decide_eq_true (by omega)), if_pos trivial, hiu, hS (by rw [List.length_set]; omega)]; rfl
    · rw [switch_sum hT (by rw [h1]; exact h0) (by rw [h1, hnow]; simpa using hw)]; simp only [Option.bind_some]
      rw [hT.imC0, if_neg (by simp), hT.log0, if_neg (by simp), grd_pos (decide_eq_true (by omega)), if_neg h0, if_pos hw, if_pos trivial, him, hS (by omega)]; rfl
theorem agrees_ok {w : List UInt64} (hn : 1 ≤ w.length ∧ w.length ≤ 1000) (q : Int) (x : ByteArray) : volumegrouplaw12_agrees w q x = some true := by
  unfold volumegrouplaw12_agrees
  rw [area_eq (by omega)]; simp only [Option.bind_some, Option.elim]
  have hS : ∀ {x : List UInt64}, x.length ≤ 1000 → volumegroupref02_Same x x = some true := fun {x} hx => by rw [same02_eq (by omega)]; simp
  by_cases h4 : 4 ≤ w.length
  · have hL := lv_mkS h4 hn.2
    rw [read_eq hL, now_mkS, rread_eq h4 hn.2, seqs_eq hL]; simp only [Option.bind_some]
    rw [if_neg (by rintro ((h | h) | ⟨h, _⟩) <;> first | exact h rfl | omega), if_pos (by omega), if_neg (by simp), rsplit_eq]; simp only [Option.bind_some]
    rw [if_neg (by rw [now_mkS]; simp), rsplit_eq]; simp only [Option.bind_some]
    rw [if_neg (by rw [now_mkS]; simp)]
    obtain ⟨out, e, t, p1, p2, p3, p4, p5, p6⟩ := prep_agree h4 hn.2 q x
    rw [p1, p2]; simp only [Option.bind_some]
    rw [if_neg (by simp), p3.imC0, if_neg (by simp), p3.log0, if_neg (by simp)]
    by_cases he : e = 0
    · obtain ⟨o1, o2⟩ := p5 he
      have him : imL t (0 : Int) = out := p3.im_eq o1 fun b _ => by rw [o2]
      have ht := agrees_tail p3 (by omega) p4 o1 o2
      rw [if_pos he]
      rw [show volumegroupref02_Same (imL t 0) out = some true by rw [him]; exact hS (by omega)]; simp only [Option.bind_some]
      rw [if_neg (by simp), if_neg (fun h => h he), if_neg (by omega)]
      exact ht
    · have o2 := p6 he
      have him : imL t (0 : Int) = w := p3.im_eq rfl fun b _ => by rw [o2]
      have ht := agrees_tail p3 (by omega) p4 rfl o2
      rw [if_neg he, if_pos he]
      rw [show volumegroupref02_Same (imL t 0) w = some true by rw [him]; exact hS (by omega)]; simp only [Option.bind_some]
      rw [if_neg (by simp), if_neg (by omega)]
      exact ht
  · have hiC : imC (mkS [w]) (0 : Int) = 0 := imC_of (s := mkS [w]) (d := 0) (by simp)
    have hiL : imL (mkS [w]) (0 : Int) = w := (imL_of (s := mkS [w]) (d := 0) (by simp)).trans rfl
    have hr : volumegroupref12_Read w = some (⟨false, 0, ByteArray.empty⟩, 3) := by unfold volumegroupref12_Read; rw [if_pos (by omega)]
    have hp : volumegroupref12_Prepared w q x = some ([], 3) := by unfold volumegroupref12_Prepared; rw [if_pos (by omega)]
    rw [read_small (by omega), hr, seqs_small (by omega)]; simp only [Option.bind_some]
    rw [if_neg (by rintro ((h | h) | ⟨_, (h | h) | h⟩) <;> exact h rfl), if_neg (by omega), hp, prep_small (by omega)]; simp only [Option.bind_some]
    rw [if_neg (by simp), hiC, if_neg (by simp), if_neg (by simp [mkS]), if_neg (by decide), if_pos (by decide), hiL, hS (by omega)]; simp only [Option.bind_some]
    rw [if_neg (by simp), if_pos (by omega), switch_small (by omega)]; simp only [Option.bind_some]
    rw [if_pos trivial, format_small (by omega)]; simp only [Option.bind_some]
    rw [if_pos trivial, clear_small (by omega)]; rfl
theorem PRingAreas (l : List Int) (w : List UInt64) (q : Int) (x : ByteArray) : volumegrouplaw12_RingAreas l w q x = some true := by
  unfold volumegrouplaw12_RingAreas
  by_cases hc : (((40 : Int) < ((w.length : Nat) : Int)) ∨ (((w.length : Nat) : Int) = (0 : Int))) ∨ ((200 : Int) < ((x.size : Nat) : Int))
  · rw [if_pos hc, awake12]; rfl
  · rw [if_neg hc]
    obtain ⟨L, h1, hL⟩ := new_ok l
    rw [h1]; simp only [Option.bind_some]
    obtain ⟨v, b, h2, hb, hv1, hv2⟩ := srcRange_ok (L := L) (a := ((0 : Nat) : Int)) (lo := 4) (hi := 20) hL (by omega) (by omega)
    rw [h2]; simp only [Option.bind_some]
    obtain ⟨n, rfl⟩ : ∃ n : Nat, v = (n : Int) := ⟨v.toNat, by omega⟩
    obtain ⟨z, b2, h3, hz, hb2⟩ := built_ok (L := L) (n := n) (p := b) hL (by omega) hb
    rw [h3]; simp only [Option.bind_some]
    rw [agrees_ok (by omega)]; simp only [Option.bind_some]
    rw [if_pos trivial, agrees_ok (by omega)]; simp only [Option.bind_some]
    obtain ⟨v3, b3, h4, hb3, hv3, hw3, -⟩ := srcN_ok (L := L) (a := b2) (n := 1048575) hL hb2 (by omega)
    have := hw3 (by omega)
    rw [if_pos trivial, h4]; simp only [Option.bind_some]
    rw [grd_pos (inI64_of (by omega))]
    obtain ⟨k, b4, h5, _⟩ := srcWord_ok (L := L) (a := b3) (l := [(ByteArray.mk #[]), (ByteArray.mk #[97, 98, 99]), (ByteArray.mk #[97, 32, 116, 101, 120, 116, 32, 111, 102, 32, 115, 111, 109, 101, 32, 119, 111, 114, 100, 115]), (ByteArray.mk #[48, 49, 50, 51, 52, 53, 54, 55, 56, 57, 48, 49, 50, 51, 52, 53, 54, 55, 56, 57, 48, 49, 50, 51, 52, 53, 54, 55, 56, 57, 48, 49, 50, 51, 52, 53, 54, 55, 56, 57])]) hL hb3 (by simp)
    rw [h5]; simp only [Option.bind_some]
    rw [agrees_ok (by omega)]; simp only [Option.bind_some]
    rw [if_pos trivial, awake12]; rfl
end Go.Proofs
