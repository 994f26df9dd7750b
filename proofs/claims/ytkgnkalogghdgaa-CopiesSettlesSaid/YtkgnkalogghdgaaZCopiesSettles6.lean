/- CopiesSettles, part 6 of the proof: PCopiesSettles. -/
import Derived.WalkKit
import Derived.Orders
import Derived.RangeFuncLeaves
import Derived.RangeFuncCalls
import Derived.TacticsIn
import Derived.Handy
import Derived.OrdersHeld
import Derived.OrdersIn
import Derived.Below
import Derived.OpenShut
import Derived.Deep.Slices
import Derived.Scope
import Derived.KernelRfl
import Derived.RangeFuncRecord
import Derived.ChangeKeysEq
import Derived.Laws.BytesArg
import Derived.ProofKit
import Derived.ShutString
import Derived.ChangeOld
import Derived.Test.YtkgnkalogghdgaaChecked
import Derived.Test.YtkgnkalogghdgaaRows
import Derived.Test.YtkgnkalogghdgaaZCopiesSettles5
namespace Go.Proofs
open Go.VG
theorem new_ok (l : List Int) : ∃ L, volumegroupmake_New l = some (L, 0) ∧ L.length ≤ 1000 := by
  unfold volumegroupmake_New
  by_cases h : (1000 : Int) < ((l.length : Nat) : Int)
  · rw [if_pos h]; exact ⟨_, rfl, by simp; omega⟩
  · rw [if_neg h]; exact ⟨_, rfl, by omega⟩
theorem raw_ok {L : List Int} {a : Int} (hL : L.length ≤ 1000) (h : 0 ≤ a ∧ a ≤ 1000) : ∃ v b, volumegroupmake_Src_Raw L a = some (v, b) ∧ 0 ≤ b ∧ b ≤ 1000 := by
  unfold volumegroupmake_Src_Raw
  by_cases h1 : ((L.length : Nat) : Int) ≤ a
  · rw [if_pos h1]; exact ⟨_, _, rfl, h.1, h.2⟩
  · rw [if_neg h1, grd_t (inI64_of (by omega)), grd_t (inI64_of (by omega)), grd_t (decide_eq_true (by omega))]
    exact ⟨_, _, rfl, by omega, by omega⟩
theorem srcN_ok {L : List Int} {a n : Int} (hL : L.length ≤ 1000) (h : 0 ≤ a ∧ a ≤ 1000) (hn : n ≤ 1000000000) : ∃ v b, volumegroupmake_Src_N L a n = some (v, b) ∧ (0 ≤ b ∧ b ≤ 1000) ∧ 0 ≤ v ∧ (1 ≤ n → v < n) ∧ (n < 1 → v = 0) := by
  unfold volumegroupmake_Src_N
  by_cases h1 : n < 1
  · rw [if_pos h1]; exact ⟨_, _, rfl, h, Int.le_refl _, fun x => by omega, fun _ => rfl⟩
  · rw [if_neg h1]
    obtain ⟨v, b, h2, h3⟩ := raw_ok hL h
    rw [h2]; simp only [Option.bind_some]
    have h4 := Int.natAbs_tmod v n
    have h5 := Nat.mod_lt v.natAbs (show 0 < n.natAbs by omega)
    by_cases h6 : v.tmod n < 0
    · rw [if_pos h6, grd_t (inI64_of (by omega))]
      exact ⟨_, _, rfl, h3, by omega, fun _ => by omega, fun x => by omega⟩
    · rw [if_neg h6]
      exact ⟨_, _, rfl, h3, by omega, fun _ => by omega, fun x => by omega⟩
theorem bits8 {v : Int} (hv : 0 ≤ v ∧ v < 8) : Dist (bitsL v 3) ∧ (∀ i, i < (bitsL v 3).length → (bitsL v 3).getD i 0 < 3) ∧ (bitsL v 3).length ≤ 3 ∧ (∀ e, e < 3 → (andI (shrI v e) 1 = 1 ↔ ∃ j, j < (bitsL v 3).length ∧ (bitsL v 3).getD j 0 = e)) ∧ ((bitsL v 3).length = 0 → v = 0) := by
  have hD : ∀ l : List Nat, (∀ j, j < l.length → ∀ i, i < j → l.getD i 0 ≠ l.getD j 0) → Dist l := fun l h i j h1 h2 => h j h2 i h1
  have hv8 : v = 0 ∨ v = 1 ∨ v = 2 ∨ v = 3 ∨ v = 4 ∨ v = 5 ∨ v = 6 ∨ v = 7 := by omega
  rcases hv8 with rfl | rfl | rfl | rfl | rfl | rfl | rfl | rfl
  all_goals refine ⟨hD _ (by decide), by decide, by decide, fun e he => ?_, by decide⟩
  all_goals (have he3 : e = 0 ∨ e = 1 ∨ e = 2 := by omega)
  all_goals rcases he3 with rfl | rfl | rfl
  all_goals (first | exact ⟨fun _ => ⟨0, by decide, by decide⟩, fun _ => by decide⟩ | exact ⟨fun _ => ⟨1, by decide, by decide⟩, fun _ => by decide⟩ | exact ⟨fun _ => ⟨2, by decide, by decide⟩, fun _ => by decide⟩ | exact ⟨fun h => absurd h (by decide), fun ⟨j, h1, h2⟩ => absurd h2 (by revert j; decide)⟩)
theorem read_txt {A : Nat → UInt64} {r : Nat} {t : Txt} (hh : Hold A r 0 (some t)) : (readR A r).1 = ⟨true, (t.q : Int), t.s⟩ := by
  unfold readR
  rw [if_neg (fun x => nomatch hh.ne.1 x), hh.whole, if_pos rfl, hh.dS.2.2]
section
variable {ns : List Nat} {K n : Nat} {s t : ArrS}
theorem commitD_l1 {ds : List Nat} {q : Nat} {x : ByteArray} {c : Nat → Option Txt} {L : Nat} (hx : x.size ≤ 8192) (hq : 1 ≤ q ∧ q ≤ 1048575) (hL : (encT x).length = L) (hd : Dist ds) (hin : ∀ i, i < ds.length → ds.getD i 0 < ns.length)
    (hfit : ∀ i, i < ds.length → L + oLen (c (ds.getD i 0)) ≤ rgR n) : ∀ (N i K : Nat) (s : ArrS), ds.length - i < N → i ≤ ds.length → K + (ds.length - i) * (L + 1) ≤ 700000 → (∀ e, e < ns.length → Lv ns K e n s) → s.fuse = 0 →
    (∀ j, j < ds.length → Hold (now s (ds.getD j 0)) (rgR n) 0 (c (ds.getD j 0))) → (∀ j, j < i → Hold (now s (ds.getD j 0)) (rgR n) 1 (some ⟨q, nextSt (rgR n) (c (ds.getD j 0)), x⟩)) →
    ∃ t, copies_Commit_l1 (dks ds n) (q : Int) x N s i = some (.inl t) ∧ (∀ e, e < ns.length → Lv ns (K + (ds.length - i) * (L + 1)) e n t) ∧ t.fuse = 0 ∧ (∀ j, j < ds.length → Hold (now t (ds.getD j 0)) (rgR n) 0 (c (ds.getD j 0))) ∧
      (∀ j, j < ds.length → Hold (now t (ds.getD j 0)) (rgR n) 1 (some ⟨q, nextSt (rgR n) (c (ds.getD j 0)), x⟩)) ∧ (∀ e, (∀ j, i ≤ j → j < ds.length → ds.getD j 0 ≠ e) → now t e = now s e)
  | 0, _, _, _, h, _, _, _, _, _, _ => absurd h (by omega)
  | N + 1, i, K, s, h, hi, hK, hl, hf, h0, h1 => by
    show ∃ t, copies_Commit_l1_b _ _ _ _ _ _ = _ ∧ _
    unfold copies_Commit_l1_b
    rw [dks_len]
    by_cases hlt : i < ds.length
    · rw [if_pos (by omega), dks_getD hlt]
      have hmul : (ds.length - i) * (L + 1) = (L + 1) + (ds.length - (i + 1)) * (L + 1) := by
        rw [show ds.length - i = (ds.length - (i + 1)) + 1 by omega, Nat.add_mul, Nat.one_mul, Nat.add_comm]
      rcases prep_hold (hl _ (hin i hlt)) (by omega) (h0 i hlt) hq hx with ⟨h2, _⟩ | ⟨_, ⟨t, h2, h3, h4, h5, h6⟩ | ⟨h2, _⟩⟩
      · have := hfit i hlt; omega
      · rw [h2]; simp only [Option.bind_some]
        rw [if_neg (by simp)]
        rw [hL] at h4
        have hoth : ∀ e, ds.getD i 0 ≠ e → e < ns.length → Lv ns (K + L + 1) e n t ∧ now t e = now s e := fun e hne he => by
          have := h3.other hne (hl e he) (by omega)
          rw [hL] at this; exact this
        obtain ⟨u, u1, u2, u3, u4, u5, u6⟩ := commitD_l1 hx hq hL hd hin hfit N (i + 1) (K + L + 1) t (by omega) (by omega) (by omega) (fun e he => by
          by_cases hne : ds.getD i 0 = e
          · rw [← hne]; exact h4
          · exact (hoth e hne he).1) (by rw [h3.fuse, hf]; omega) (fun j hj => by
          by_cases hne : ds.getD i 0 = ds.getD j 0
          · rw [← hne]; exact h5
          · rw [(hoth _ hne (hin j hj)).2]; exact h0 j hj) (fun j hj => by
          rcases Nat.lt_or_ge j i with hji | hji
          · have hne := hd j i hji hlt
            rw [(hoth _ (fun e => hne e.symm) (hin j (by omega))).2]
            exact h1 j hji
          · have : j = i := by omega
            rw [this]; exact h6)
        refine ⟨u, u1, fun e he => ?_, u3, u4, u5, fun e he => ?_⟩
        · have := u2 e he
          rw [show K + (ds.length - i) * (L + 1) = K + L + 1 + (ds.length - (i + 1)) * (L + 1) by omega]
          exact this
        · rw [u6 e (fun j hj hjl => he j (by omega) hjl)]
          funext b
          rw [h3.now, if_neg (he i (Nat.le_refl _) hlt)]
      · exact absurd hf h2
    · rw [if_neg (by omega)]
      have e : i = ds.length := by omega
      refine ⟨s, rfl, fun e he => ?_, hf, h0, fun j hj => h1 j (by omega), fun _ _ => rfl⟩
      rw [show ds.length - i = 0 by omega, Nat.zero_mul]; exact hl e he
theorem commitD_ok {ds : List Nat} {q : Nat} {x : ByteArray} {c : Nat → Option Txt} {L : Nat} (hx : x.size ≤ 8192) (hq : 1 ≤ q ∧ q ≤ 1048575) (hL : (encT x).length = L) (hd : Dist ds) (hin : ∀ i, i < ds.length → ds.getD i 0 < ns.length) (h0 : ds.length ≠ 0) (h100 : ds.length ≤ 100)
    (hfit : ∀ i, i < ds.length → L + oLen (c (ds.getD i 0)) ≤ rgR n) (hK : K ≤ 100000) (hl : ∀ e, e < ns.length → Lv ns K e n s) (hf : s.fuse = 0) (hh : ∀ j, j < ds.length → Hold (now s (ds.getD j 0)) (rgR n) 0 (c (ds.getD j 0))) :
    ∃ t, copies_Commit (dks ds n) (q : Int) x s = some (true, 0, t) ∧ (∀ e, e < ns.length → Lv ns (K + ds.length * (L + 1) + ds.length) e n t) ∧ t.fuse = 0 ∧
      (∀ j, j < ds.length → Hold (now t (ds.getD j 0)) (rgR n) 0 (some ⟨q, nextSt (rgR n) (c (ds.getD j 0)), x⟩) ∧ Hold (now t (ds.getD j 0)) (rgR n) 1 (some ⟨q, nextSt (rgR n) (c (ds.getD j 0)), x⟩)) ∧
      (∀ e, (∀ j, j < ds.length → ds.getD j 0 ≠ e) → now t e = now s e) := by
  unfold copies_Commit
  rw [dks_len, if_neg (by omega)]
  have hF := fuel_big
  generalize FUEL = N at hF ⊢
  have hE := encT_lt hx
  have hb : ds.length * (L + 1) ≤ 100 * 4096 := Nat.mul_le_mul h100 (by omega)
  obtain ⟨t, t1, t2, t3, t4, t5, t6⟩ := commitD_l1 (ns := ns) (n := n) hx hq hL hd hin hfit N 0 K s (by omega) (by omega) (by simp only [Nat.sub_zero]; omega) hl hf hh (fun j hj => absurd hj (by omega))
  rw [t1]
  simp only [seqO, Option.bind_some, Sum.elim_inl]
  simp only [Nat.sub_zero] at t2
  obtain ⟨u, u1, u2, u3, u4, u5⟩ := commit_l2 (ns := ns) (n := n) (ds := ds) (T := fun d => ⟨q, nextSt (rgR n) (c d), x⟩) hd hin N 0 _ t (by omega) (by omega) (by simp only [Nat.sub_zero]; omega) t2 t3 t5 (fun j hj => absurd hj (by omega))
  rw [u1]
  simp only [Option.bind_some, Sum.elim_inl]
  simp only [Nat.sub_zero] at u2
  exact ⟨u, rfl, u2, u3, u4, fun e he => by rw [u5 e (fun j _ hj => he j hj), t6 e (fun j _ hj => he j hj)]⟩
theorem settle_clear {ds : List Nat} (hd : Dist ds) (hin : ∀ i, i < ds.length → ds.getD i 0 < ns.length) : ∀ (N i K : Nat) (s : ArrS), ds.length - i < N → i ≤ ds.length → K + (ds.length - i) ≤ 700000 → (∀ e, e < ns.length → Lv ns K e n s) → s.fuse = 0 →
    (∀ j, j < i → ∃ c, Hold (now s (ds.getD j 0)) (rgR n) 0 c ∧ oLen c ≤ 3) → (∀ j, j < ds.length → Sh (now s (ds.getD j 0)) (rgR n)) →
    ∃ t, copies_Settle_l1 (dks ds n) N s i = some (.inl t) ∧ (∀ e, e < ns.length → Lv ns (K + (ds.length - i)) e n t) ∧ t.fuse = 0 ∧ (∀ j, j < ds.length → ∃ c, Hold (now t (ds.getD j 0)) (rgR n) 0 c ∧ oLen c ≤ 3)
  | 0, _, _, _, h, _, _, _, _, _, _ => absurd h (by omega)
  | N + 1, i, K, s, h, hi, hK, hl, hf, h0, hS => by
    show ∃ t, copies_Settle_l1_b _ _ _ _ = _ ∧ _
    unfold copies_Settle_l1_b
    rw [dks_len]
    by_cases hlt : i < ds.length
    · have hLd := hl _ (hin i hlt)
      obtain ⟨r1, r2, r3⟩ := rg_le hLd.h4 hLd.hb
      have hr5 : rgR n ≤ 65535 := by unfold rgR; omega
      rw [if_pos (by omega), dks_getD hlt, look_eq hLd]; simp only [Option.bind_some]
      by_cases h11 : (readR (now s (ds.getD i 0)) (rgR n)).2 = 11
      · rw [if_pos (show (foundR (now s (ds.getD i 0)) (rgR n)).error = 11 from h11)]
        rcases clear_out hLd with ⟨_, t, w, W⟩ | ⟨w, _⟩
        · rw [w]; simp only [Option.bind_some]
          rw [if_neg (by decide)]
          have hoth : ∀ e, ds.getD i 0 ≠ e → e < ns.length → Lv ns (K + 1) e n t ∧ now t e = now s e := fun e hne he => W.other hne (hl e he) (by omega)
          have hcl : Hold (now t (ds.getD i 0)) (rgR n) 0 none := by rw [W.nowD]; exact Hold.clear
          obtain ⟨u, u1, u2, u3, u4⟩ := settle_clear hd hin N (i + 1) (K + 1) t (by omega) (by omega) (by omega) (fun e he => by
            by_cases hne : ds.getD i 0 = e
            · rw [← hne]; exact W.lv hLd (by omega)
            · exact (hoth e hne he).1) (by rw [W.fuse, hf]) (fun j hj => by
            by_cases hne : ds.getD i 0 = ds.getD j 0
            · rw [← hne]; exact ⟨none, hcl, by show 0 ≤ 3; omega⟩
            · rw [(hoth _ hne (hin j (by omega))).2]
              rcases Nat.lt_or_ge j i with hji | hji
              · exact h0 j hji
              · exact absurd (by rw [show j = i by omega]) hne) (fun j hj => by
            by_cases hne : ds.getD i 0 = ds.getD j 0
            · rw [← hne]; exact hcl.sh (by show 0 ≤ 3; omega)
            · rw [(hoth _ hne (hin j hj)).2]; exact hS j hj)
          refine ⟨u, u1, fun e he => ?_, u3, u4⟩
          have := u2 e he
          rw [show K + (ds.length - i) = K + 1 + (ds.length - (i + 1)) by omega]; exact this
        · omega
      · rw [if_neg (show ¬ (foundR (now s (ds.getD i 0)) (rgR n)).error = 11 from h11)]
        obtain ⟨u, u1, u2, u3, u4⟩ := settle_clear hd hin N (i + 1) K s (by omega) (by omega) (by omega) hl hf (fun j hj => by
          rcases Nat.lt_or_ge j i with hji | hji
          · exact h0 j hji
          · rw [show j = i by omega]
            by_cases hA : now s (ds.getD i 0) 0 = 0
            · exact ⟨none, hA, by show 0 ≤ 3; omega⟩
            · have hw : (wholeR (now s (ds.getD i 0)) (rgR n) (now s (ds.getD i 0) 0)).2 = true := by
                unfold readR at h11
                rw [if_neg hA] at h11
                by_cases hw : (wholeR (now s (ds.getD i 0)) (rgR n) (now s (ds.getD i 0) 0)).2 = true
                · exact hw
                · rw [if_neg hw] at h11; exact absurd rfl h11
              obtain ⟨k1, k2⟩ := hold_whole hr5 hw
              exact ⟨_, k1, by rw [k2]; exact hS i hlt hw⟩) hS
        refine ⟨u, u1, fun e he => ?_, u3, u4⟩
        exact (u2 e he).mono (by omega) (by omega)
    · rw [if_neg (by omega)]
      exact ⟨s, rfl, fun e he => (hl e he).mono (by omega) (by omega), hf, fun j hj => h0 j (by omega)⟩
end
abbrev txt3 : List ByteArray := [(ByteArray.mk #[102, 105, 114, 115, 116]), (ByteArray.mk #[115, 101, 99, 111, 110, 100, 32, 116, 101, 120, 116]), (ByteArray.mk #[116, 104, 105, 114, 100])]
theorem txt3_size {i : Nat} : (txt3.getD i ByteArray.empty).size ≤ 11 := by
  match i with
  | 0 => decide
  | 1 => decide
  | 2 => decide
  | _ + 3 => exact Nat.zero_le _
abbrev n3 : List Nat := List.replicate 3 24
theorem settles_l1 {L : List Int} {L0 : Nat} (hL : L.length ≤ 1000) : ∀ (N i K : Nat) (a : Int) (s : ArrS), 3 - i < N → i ≤ 3 → K ≤ 20 * i → (0 ≤ a ∧ a ≤ 1000) → (∀ e, e < 3 → Lv n3 K e 24 s) → s.fuse = 0 → (∀ e, e < 3 → ∃ c, Hold (now s e) 22 0 c ∧ oLen c ≤ 3) →
    ∃ b t K', volumegrouplaw13_CopiesSettles_l1 (L, L0) N a s i = some (.inl (b, t)) ∧ (0 ≤ b ∧ b ≤ 1000) ∧ K' ≤ 60 ∧ (∀ e, e < 3 → Lv n3 K' e 24 t) ∧ t.fuse = 0 ∧ (∀ e, e < 3 → ∃ c, Hold (now t e) 22 0 c ∧ oLen c ≤ 3)
  | 0, _, _, _, _, h, _, _, _, _, _, _ => absurd h (by omega)
  | N + 1, i, K, a, s, h, hi, hK, ha, hl, hf, hh => by
    show ∃ b t K', volumegrouplaw13_CopiesSettles_l1_b _ _ _ _ _ = _ ∧ _
    unfold volumegrouplaw13_CopiesSettles_l1_b
    by_cases hlt : i < 3
    · rw [if_pos (by omega), grd_pos (decide_eq_true (by simp; omega))]
      simp only [lt]
      obtain ⟨v, b, h1, hb, hv0, hv1, -⟩ := srcN_ok (L := L) (a := a) (n := 7) hL ha (by omega)
      have hv7 := hv1 (by omega)
      rw [h1]; simp only [Option.bind_some]
      rw [grd_pos (inI64_of (by omega)), some_eq (hl 0 (by omega)) (by omega)]; simp only [Option.bind_some]
      obtain ⟨b1, b2, b3, b4, b5⟩ := bits8 (v := 1 + v) (by omega)
      have hx := txt3_size (i := i)
      generalize hxx : txt3.getD i ByteArray.empty = x at hx
      have hxL : (encT x).length ≤ 3 := by rw [encT_len]; unfold bytesN; omega
      classical
      let cc : Nat → Option Txt := fun e => if he : e < 3 then Classical.choose (hh e he) else none
      have hcc : ∀ e, e < 3 → Hold (now s e) 22 0 (cc e) ∧ oLen (cc e) ≤ 3 := fun e he => by
        show Hold (now s e) 22 0 (if he : e < 3 then Classical.choose (hh e he) else none) ∧ oLen (if he : e < 3 then Classical.choose (hh e he) else none) ≤ 3
        rw [dif_pos he]; exact Classical.choose_spec (hh e he)
      have hl' : ∀ e, e < n3.length → Lv n3 K e 24 s := fun e he => hl e (by simpa using he)
      have hmul : (bitsL (1 + v) 3).length * ((encT x).length + 1) ≤ 3 * 4 := Nat.mul_le_mul b3 (by omega)
      obtain ⟨t, t1, t2, t3, t4, t5⟩ := commitD_ok (ns := n3) (n := 24) (K := K) (ds := bitsL (1 + v) 3) (q := i + 1) (x := x) (c := cc) (by omega) (by omega) rfl b1 (fun j hj => by have := b2 j hj; simpa using this) (fun h0 => by have := b5 h0; omega) (by omega) (fun j hj => by
        have := (hcc _ (b2 j hj)).2
        show _ ≤ 22; omega) (by omega) hl' hf (fun j hj => (hcc _ (b2 j hj)).1)
      rw [t1]; simp only [Option.bind_some]
      rw [if_neg (by decide)]
      refine settles_l1 hL N (i + 1) (K + 20) b t (by omega) (by omega) (by omega) hb (fun e he => (t2 e (by simpa using he)).mono (by omega) (by omega)) t3 (fun e he => ?_)
      by_cases hin : ∃ j, j < (bitsL (1 + v) 3).length ∧ (bitsL (1 + v) 3).getD j 0 = e
      · obtain ⟨j, hj, hje⟩ := hin
        have := (t4 j hj).1
        rw [hje] at this
        exact ⟨_, this, hxL⟩
      · rw [t5 e (fun j hj hje => hin ⟨j, hj, hje⟩)]
        exact hh e he
    · rw [if_neg (by omega)]
      exact ⟨a, s, K, rfl, ha, by omega, hl, hf, hh⟩
theorem settles_l2 {L : List Int} {L0 : Nat} (hL : L.length ≤ 1000) : ∀ (N i K : Nat) (a : Int) (s : ArrS), 3 - i < N → i ≤ 3 → K ≤ 1000 → (0 ≤ a ∧ a ≤ 1000) → (∀ e, e < 3 → Lv n3 K e 24 s) → s.fuse = 0 → (∀ e, i ≤ e → e < 3 → ∃ c, Hold (now s e) 22 0 c ∧ oLen c ≤ 3) → (∀ e, e < i → Sh (now s e) 22) →
    ∃ b t, volumegrouplaw13_CopiesSettles_l2 (L, L0) N a s i = some (.inl (b, t)) ∧ (0 ≤ b ∧ b ≤ 1000) ∧ (∀ e, e < 3 → Lv n3 K e 24 t) ∧ t.fuse = 0 ∧ (∀ e, e < 3 → Sh (now t e) 22)
  | 0, _, _, _, _, h, _, _, _, _, _, _, _ => absurd h (by omega)
  | N + 1, i, K, a, s, h, hi, hK, ha, hl, hf, hh, hS => by
    show ∃ b t, volumegrouplaw13_CopiesSettles_l2_b _ _ _ _ _ = _ ∧ _
    unfold volumegrouplaw13_CopiesSettles_l2_b
    by_cases hlt : i < 3
    · rw [if_pos (by omega)]
      obtain ⟨v, b, h1, hb, hv0, hv1, -⟩ := srcN_ok (L := L) (a := a) (n := 5) hL ha (by omega)
      rw [h1]; simp only [Option.bind_some]
      obtain ⟨c, hc1, hc2⟩ := hh i (Nat.le_refl _) hlt
      by_cases hv : v = 0
      · rw [if_pos hv]
        have hok := (hl i hlt).ok
        have hdl : i < s.drv.length := hok.disk (by simpa using hlt)
        have hlen : (nowL s i).length = 24 := by
          have := hok.sz.size i (by simpa using hlt)
          rw [size_nowL] at this
          rw [this]; simp [List.getD_eq_getElem?_getD, hlt]
        rw [imL_of hdl, imC_of hdl, hlen, if_neg (by simp)]
        obtain ⟨v2, b2, h2, hb2, hw0, hw1, -⟩ := srcN_ok (L := L) (a := b) (n := 24) hL hb (by omega)
        rw [h2]; simp only [Option.bind_some]
        have hw24 := hw1 (by omega)
        rw [grd_pos (decide_eq_true (by omega))]
        obtain ⟨v3, b3, h3, hb3, hz0, hz1, -⟩ := srcN_ok (L := L) (a := b2) (n := 64) hL hb2 (by omega)
        rw [h3]; simp only [Option.bind_some]
        have hz64 := hz1 (by omega)
        have hwr := hok.wr
        rw [grd_pos (decide_eq_true (by omega))]
        simp only [lt]
        rw [grd_pos (decide_eq_true (by omega)), grd_pos (inLen_of (by omega))]
        have hns : ∀ im : List UInt64, im.length = 24 → im.length = n3.getD i 0 := fun im him => by rw [him]; simp [List.getD_eq_getElem?_getD, hlt]
        obtain ⟨c1, c2⟩ := load_eq hok (d := i) (by simpa using hlt) (hns ((nowL s i).set v2.toNat ((nowL s i).getD v2.toNat 0 ^^^ shl_u64 1 v3.toNat)) (by rw [List.length_set, hlen]))
        rw [c1, if_neg (by decide)]
        generalize ldS s ((i : Nat) : Int) ((nowL s i).set v2.toNat ((nowL s i).getD v2.toNat 0 ^^^ shl_u64 1 v3.toNat)) = t at c2 ⊢
        have hoth : ∀ e, e ≠ i → now t e = now s e := fun e he => funext fun b => (c2.oth e b he).1
        have hown : now t i = upd (now s i) v2.toNat (now s i v2.toNat ^^^ shl_u64 1 v3.toNat) := funext fun b => by
          rw [(c2.own b).1, getD_set (by omega)]; rfl
        refine settles_l2 hL N (i + 1) K b3 t (by omega) (by omega) hK hb3 (fun e he => ?_) (by rw [c2.fuse, hf]) (fun e h1 h2 => ?_) (fun e he => ?_)
        · have hle := hl e he
          refine ⟨c2.ok, by rw [c2.dn]; exact hle.dn, hle.hd, hle.hn, hle.h4, hle.hb, by rw [c2.miss]; exact hle.ms, fun b hb' => ?_, hle.hK⟩
          by_cases hei : e = i
          · rw [hei, (c2.own b).1, (c2.own b).2]
          · rw [hoth e hei, (c2.oth e b hei).2]; exact hle.cl b hb'
        · rw [hoth e (by omega)]; exact hh e (by omega) h2
        · by_cases hei : e = i
          · rw [hei, hown]; exact Sh.flip (by omega) hc1 hc2
          · rw [hoth e hei]; exact hS e (by omega)
      · rw [if_neg hv]
        refine settles_l2 hL N (i + 1) K b s (by omega) (by omega) hK hb hl hf (fun e h1 h2 => hh e (by omega) h2) (fun e he => ?_)
        rcases Nat.lt_or_ge e i with h5 | h5
        · exact hS e h5
        · rw [show e = i by omega]; exact hc1.sh hc2
    · rw [if_neg (by omega)]
      exact ⟨a, s, rfl, ha, hl, hf, fun e he => hS e (by omega)⟩
theorem settles_l3 {r : api_Copy × Int × ArrS} {d : (List api_Copy) × (List Int) × Int} (hd : ∀ i, i < d.1.length → d.1.getD i zC = r.1) (h100 : d.1.length ≤ 1000) : ∀ (N i : Nat), d.1.length - i < N → volumegrouplaw13_CopiesSettles_l3 r d N i = some (.inl ())
  | 0, _, h => absurd h (by omega)
  | N + 1, i, h => by
    show volumegrouplaw13_CopiesSettles_l3_b _ _ _ _ = _
    unfold volumegrouplaw13_CopiesSettles_l3_b
    by_cases hlt : i < d.1.length
    · rw [if_pos (by omega), if_neg (fun x => x (hd i hlt)), grd_pos (inN64_of (by omega))]
      exact settles_l3 hd h100 N (i + 1) (by omega)
    · rw [if_neg (by omega)]
theorem PCopiesSettles (l : List Int) : volumegrouplaw13_CopiesSettles l = some true := by
  unfold volumegrouplaw13_CopiesSettles
  obtain ⟨L, h1, hL⟩ := new_ok l
  rw [h1]; simp only [Option.bind_some]
  rw [show volumegrouplaw13_areas (3 : Int) (24 : Int) = _ from areas_eq (m := 3) (n := 24) (by omega) (by omega)]; simp only [Option.bind_some, Option.elim]
  have hF := fuel_big
  obtain ⟨b, t, K, t1, hb, hK, t2, t3, t4⟩ := settles_l1 (L := L) (L0 := 0) hL FUEL 0 0 ((0 : Nat) : Int) (mkS (List.replicate 3 (List.replicate 24 0))) (by omega) (by omega) (by omega) (by omega) (fun e he => lvA_mkS he (by omega)) rfl (fun e _ => ⟨none, now0A, by show 0 ≤ 3; omega⟩)
  rw [t1]
  simp only [seqO, Option.bind_some, Sum.elim_inl]
  obtain ⟨b2, s, s1, hb2, s2, s3, s4⟩ := settles_l2 (L := L) (L0 := 0) hL FUEL 0 K b t (by omega) (by omega) (by omega) hb t2 t3 (fun e _ he => t4 e he) (fun e he => absurd he (by omega))
  rw [s1]
  simp only [Option.bind_some, Sum.elim_inl]
  obtain ⟨v, b3, h5, -, hv0, hv1, -⟩ := srcN_ok (L := L) (a := b2) (n := 7) hL hb2 (by omega)
  have hv7 := hv1 (by omega)
  rw [h5]; simp only [Option.bind_some]
  rw [grd_pos (inI64_of (by omega)), some_eq (s2 0 (by omega)) (by omega)]; simp only [Option.bind_some]
  obtain ⟨d1, d2, d3, d4, d5⟩ := bits8 (v := 1 + v) (by omega)
  generalize hds : bitsL (1 + v) 3 = ds at d1 d2 d3 d4 d5
  have hne : ds.length ≠ 0 := fun h0 => by have := d5 h0; omega
  have hl : ∀ i, i < ds.length → Lv n3 K (ds.getD i 0) 24 s := fun i hi => s2 _ (d2 i hi)
  rw [scan_eq hl (by omega)]; simp only [Option.bind_some]
  have hcl : (copiesR s 24 ds).length = ds.length := by simp [copiesR]
  have hgr := greatR_spec (s := s) (g := 1048575) ds (fun d _ => by
    have q1 : (dQ (now s d 0)).toNat < 2 ^ 20 := fieldU_lt _ _ _
    have q2 : w1 s d < 2 ^ 20 := fieldU_lt _ _ _
    omega)
  rcases choose_spec (copiesR s 24 ds) (by omega) with ⟨c1, c2⟩ | ⟨k, k1, k2, k3, ⟨c1, c2⟩ | ⟨c1, c2⟩⟩
  · rw [c1]; simp only [Option.bind_some]
    rw [settle_no hl (by omega) c1 (by decide)]; simp only [Option.bind_some]
    rw [if_pos (.inl (by decide)), if_pos ⟨by trivial, .inl (by trivial)⟩, awake13]; rfl
  · rw [c1]; simp only [Option.bind_some]
    rw [settle_no hl (by omega) c1 (by decide)]; simp only [Option.bind_some]
    rw [if_pos (.inl (by decide)), if_pos ⟨by trivial, .inl (by trivial)⟩, awake13]; rfl
  · rw [c1]; simp only [Option.bind_some]
    by_cases hg : (1048575 : Int) ≤ greatR s ds
    · rw [settle_limit hl (by omega) c1 hgr.1 hg]; simp only [Option.bind_some]
      rw [if_pos (.inr hg), if_pos ⟨by trivial, .inr ⟨by trivial, by trivial⟩⟩, awake13]; rfl
    · have hr22 : rgR 24 = 22 := rfl
      obtain ⟨u, u1, u2, u3, u4⟩ := settle_clear (ns := n3) (n := 24) d1 (fun i hi => by simpa using d2 i hi) FUEL 0 K s (by omega) (by omega) (by omega) (fun e he => s2 e (by simpa using he)) s3 (fun j hj => absurd hj (by omega)) (fun j hj => s4 _ (d2 j hj))
      rw [hcl] at k1
      -- the chosen text
      have hkA : (copiesR s 24 ds).getD k zC = (readR (now s (ds.getD k 0)) 22).1 := by
        simp [copiesR, List.getD_eq_getElem?_getD, k1, hr22]
      have hkw : now s (ds.getD k 0) 0 ≠ 0 ∧ (wholeR (now s (ds.getD k 0)) 22 (now s (ds.getD k 0) 0)).2 = true := by
        rw [hkA] at k2
        unfold readR at k2
        by_cases hA : now s (ds.getD k 0) 0 = 0
        · rw [if_pos hA] at k2; cases k2
        · rw [if_neg hA] at k2
          refine ⟨hA, ?_⟩
          by_cases hw : (wholeR (now s (ds.getD k 0)) 22 (now s (ds.getD k 0) 0)).2 = true
          · exact hw
          · rw [if_neg hw] at k2; cases k2
      have hkt : ((copiesR s 24 ds).getD k zC).Text = (wholeR (now s (ds.getD k 0)) 22 (now s (ds.getD k 0) 0)).1 := by
        rw [hkA]; unfold readR; rw [if_neg hkw.1, if_pos hkw.2]
      obtain ⟨x1, x2⟩ := hold_whole (d := 0) (by omega) hkw.2
      have hx3 := s4 _ (d2 k k1) hkw.2
      have hxs : (wholeR (now s (ds.getD k 0)) 22 (now s (ds.getD k 0) 0)).1.size ≤ 8192 := x1.1.sz
      have hxl : (encT (wholeR (now s (ds.getD k 0)) 22 (now s (ds.getD k 0) 0)).1).length ≤ 3 := by
        have : (encT (wholeR (now s (ds.getD k 0)) 22 (now s (ds.getD k 0) 0)).1).length = (dN (now s (ds.getD k 0) 0)).toNat := x2
        omega
      rw [← hkt] at hxs hxl
      generalize hX : ((copiesR s 24 ds).getD k zC).Text = x at hxs hxl
      obtain ⟨g, hgg⟩ : ∃ g : Nat, greatR s ds = (g : Int) := ⟨(greatR s ds).toNat, by omega⟩
      classical
      let cc : Nat → Option Txt := fun e => if he : ∃ c, Hold (now u e) 22 0 c ∧ oLen c ≤ 3 then Classical.choose he else none
      have hcc : ∀ j, j < ds.length → Hold (now u (ds.getD j 0)) 22 0 (cc (ds.getD j 0)) ∧ oLen (cc (ds.getD j 0)) ≤ 3 := fun j hj => by
        have he : ∃ c, Hold (now u (ds.getD j 0)) 22 0 c ∧ oLen c ≤ 3 := u4 j hj
        show Hold _ 22 0 (if he : ∃ c, Hold (now u (ds.getD j 0)) 22 0 c ∧ oLen c ≤ 3 then Classical.choose he else none) ∧ oLen (if he : ∃ c, Hold (now u (ds.getD j 0)) 22 0 c ∧ oLen c ≤ 3 then Classical.choose he else none) ≤ 3
        rw [dif_pos he]; exact Classical.choose_spec he
      have hmul : ds.length * ((encT x).length + 1) ≤ 3 * 4 := Nat.mul_le_mul d3 (by omega)
      obtain ⟨w, w1', w2, w3, w4, -⟩ := commitD_ok (ns := n3) (n := 24) (K := K + (ds.length - 0)) (ds := ds) (q := g + 1) (x := x) (c := cc) hxs (by omega) rfl d1 (fun i hi => by simpa using d2 i hi) hne (by omega) (fun j hj => by
        have := (hcc j hj).2
        show _ ≤ 22; omega) (by omega) u2 u3 (fun j hj => (hcc j hj).1)
      have hset := settle_go (k := k) hl (by omega) c1 k1 hgr.1 (by omega) u1 (r := (true, 0, w)) (by rw [hX, hgg]; exact w1')
      rw [hset]; simp only [Option.bind_some]
      rw [if_neg (by rintro (h | h); · exact h rfl
                     · omega), if_neg (by decide), grd_pos (inI64_of (by omega)), grd_pos (decide_eq_true (by rw [hcl]; omega))]
      simp only [Int.toNat_natCast]
      rw [if_neg (by rw [if_neg (by decide)]; exact fun x => x rfl)]
      have hds' : bitsL (1 + v) 3 = ds := hds
      rw [some_eq (w2 0 (by simp)) (by omega), hds']; simp only [Option.bind_some]
      rw [scan_eq (fun i hi => w2 _ (by simpa using d2 i hi)) (by omega)]; simp only [Option.bind_some]
      rw [settles_l3 (fun i hi => ?_) (by simp [copiesR]; omega) FUEL 0 (by simp [copiesR]; omega)]
      · simp only [Option.bind_some, Sum.elim_inl]
        rw [awake13]; rfl
      · have hi' : i < ds.length := by simpa [copiesR] using hi
        rw [if_neg (by decide)]
        show (copiesR w 24 ds).getD i zC = _
        have : (copiesR w 24 ds).getD i zC = (readR (now w (ds.getD i 0)) (rgR 24)).1 := by
          simp [copiesR, List.getD_eq_getElem?_getD, hi']
        rw [this, read_txt (w4 i hi').1, hgg, hX]; rfl
end Go.Proofs
