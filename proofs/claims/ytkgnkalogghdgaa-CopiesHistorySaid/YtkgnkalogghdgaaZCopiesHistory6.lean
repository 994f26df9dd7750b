/- CopiesHistory, part 6 of the proof: PSet, PHist, VgAo, LCopiesHistory, PCopiesHistory. -/
import Derived.WalkKit
import Derived.Orders
import Derived.RangeFuncLeaves
import Derived.RangeFuncCalls
import Derived.TacticsIn
import Derived.Handy
import Derived.OrdersHeld
import Derived.OrdersIn
import Derived.Below
import Derived.OpenShut
import Derived.Deep.Slices
import Derived.Scope
import Derived.KernelRfl
import Derived.RangeFuncRecord
import Derived.ChangeKeysEq
import Derived.Laws.BytesArg
import Derived.ProofKit
import Derived.ShutString
import Derived.ChangeOld
import Derived.Test.YtkgnkalogghdgaaChecked
import Derived.Test.YtkgnkalogghdgaaRows
import Derived.Test.YtkgnkalogghdgaaZCopiesHistory5
namespace Go.Proofs
open Go.VG
theorem Hold.freeN {A B : Nat → UInt64} {r n : Nat} {c : Option Txt} (h : Hold A r 0 c) (hr : 0 < r) (hn : n + oLen c ≤ r) (hB : ∀ b, b < 2 + r → (∀ j, j < n → b ≠ plc r (nextSt r c) j) → B b = A b) : Hold B r 0 c := by
  refine h.congr (hB 0 (by omega) (fun j _ e => ?_)).symm fun i hi => (hB _ (plc_lt hr) (fun j hj e => ?_)).symm
  · have := plc_ge (r := r) (st := nextSt r c) (i := j); omega
  · exact next_ne hi hj hn e.symm
theorem Lv.fuse {ns : List Nat} {K d n m : Nat} {s : ArrS} (h : Lv ns K d n s) : Lv ns K d n { s with fuse := m } := ⟨h.ok.fuse, h.dn, h.hd, h.hn, h.h4, h.hb, h.ms, h.cl, h.hK⟩
theorem Lv.mono {ns : List Nat} {K K' d n : Nat} {s : ArrS} (h : Lv ns K d n s) (hK : K ≤ K') (h9 : K' ≤ 900000) : Lv ns K' d n s := ⟨h.ok.mono hK, h.dn, h.hd, h.hn, h.h4, h.hb, h.ms, h.cl, h9⟩
abbrev w1 (s : ArrS) (e : Nat) : Nat := (dQ (now s e 1)).toNat
section
variable {ns : List Nat} {n : Nat}
def Aft (ns : List Nat) (K n : Nat) (c : Nat → Option Txt) (V : Nat → Nat → Prop) (t : ArrS) : Prop :=
  t.writes ≤ K ∧ ∀ (f : Nat) (ks : List Bool) (e : Nat), e < ns.length → Lv ns K e n (rsS { t with fuse := f } ks) ∧ Hold (now (rsS { t with fuse := f } ks) e) (rgR n) 0 (c e) ∧ V e (w1 (rsS { t with fuse := f } ks) e)
theorem aft_of {K : Nat} {t : ArrS} {c : Nat → Option Txt} {V : Nat → Nat → Prop} (hok : ArrOk ns K t) (hms : ∀ e, e < ns.length → miss t e = false) (hn : ∀ e, e < ns.length → ns.getD e 0 = n) (h4 : 4 ≤ n) (hb : n ≤ 1000) (hK : K ≤ 900000) (A : Nat → Nat → UInt64)
    (hA : ∀ e, e < ns.length → Hold (A e) (rgR n) 0 (c e) ∧ V e (dQ (A e 1)).toNat) (k : Nat → Nat) (hk : ∀ e, e < ns.length → k e + oLen (c e) ≤ rgR n)
    (hc : ∀ e, e < ns.length → ∀ b, b < n → (∀ j, j < k e → b ≠ plc (rgR n) (nextSt (rgR n) (c e)) j) → cand t e b = [A e b]) : Aft ns K n c V t := by
  refine ⟨hok.wr, fun f ks e he => ?_⟩
  obtain ⟨r1, r2, r3⟩ := rg_le h4 hb
  have R := (hok.fuse (m := f)).rs ks
  have hnow : ∀ b, b < n → (∀ j, j < k e → b ≠ plc (rgR n) (nextSt (rgR n) (c e)) j) → now (rsS { t with fuse := f } ks) e b = A e b := fun b hb' hj => by
    have h1 := R.now e b he (by rw [hn e he]; exact hb')
    rw [show cand { t with fuse := f } e b = cand t e b from rfl, hc e he b hb' hj] at h1
    simpa using h1
  refine ⟨⟨R.ok, R.dn, he, hn e he, h4, hb, by rw [R.miss]; exact hms e he, fun b _ => R.cand e b, hK⟩, ?_, ?_⟩
  · exact (hA e he).1.freeN (by omega) (hk e he) fun b hb' hj => hnow b (by omega) hj
  · show V e (dQ (now _ e 1)).toNat
    rw [hnow 1 (by omega) (fun j _ h => by have := plc_ge (r := rgR n) (st := nextSt (rgR n) (c e)) (i := j); omega)]
    exact (hA e he).2
theorem Aft.rs {K : Nat} {t : ArrS} {c : Nat → Option Txt} {V : Nat → Nat → Prop} (h : Aft ns K n c V t) (ks : List Bool) (e : Nat) (he : e < ns.length) : Lv ns K e n (rsS t ks) ∧ Hold (now (rsS t ks) e) (rgR n) 0 (c e) ∧ V e (w1 (rsS t ks) e) := h.2 t.fuse ks e he
theorem commitF_l1 {ds : List Nat} {q : Nat} {x : ByteArray} {c : Nat → Option Txt} {V : Nat → Nat → Prop} {L KK : Nat} (hx : x.size ≤ 8192) (hq : 1 ≤ q ∧ q ≤ 1048575) (hL : (encT x).length = L) (hd : Dist ds) (hin : ∀ i, i < ds.length → ds.getD i 0 < ns.length)
    (hfit : ∀ i, i < ds.length → L + oLen (c (ds.getD i 0)) ≤ rgR n) (hmq : ∀ i, i < ds.length → V (ds.getD i 0) q) (hKK : KK ≤ 700000) : ∀ (N i K : Nat) (s : ArrS), ds.length - i < N → i ≤ ds.length → K + (ds.length - i) * (L + 1) ≤ KK → (∀ e, e < ns.length → Lv ns K e n s) →
    (∀ e, e < ns.length → Hold (now s e) (rgR n) 0 (c e)) → (∀ e, e < ns.length → V e (w1 s e)) → (∀ j, j < i → Hold (now s (ds.getD j 0)) (rgR n) 1 (some ⟨q, nextSt (rgR n) (c (ds.getD j 0)), x⟩)) →
    (∃ t, copies_Commit_l1 (dks ds n) (q : Int) x N s i = some (.inl t) ∧ (∀ e, e < ns.length → Lv ns (K + (ds.length - i) * (L + 1)) e n t) ∧ (s.fuse = 0 → t.fuse = 0) ∧ (∀ e, e < ns.length → Hold (now t e) (rgR n) 0 (c e)) ∧ (∀ e, e < ns.length → V e (w1 t e)) ∧
      (∀ j, j < ds.length → Hold (now t (ds.getD j 0)) (rgR n) 1 (some ⟨q, nextSt (rgR n) (c (ds.getD j 0)), x⟩)) ∧ (∀ e, (∀ j, i ≤ j → j < ds.length → ds.getD j 0 ≠ e) → now t e = now s e)) ∨
    (s.fuse ≠ 0 ∧ ∃ t, copies_Commit_l1 (dks ds n) (q : Int) x N s i = some (.inr (false, 5, t)) ∧ Aft ns KK n c V t)
  | 0, _, _, _, h, _, _, _, _, _, _ => absurd h (by omega)
  | N + 1, i, K, s, h, hi, hK, hl, h0, hm, h1 => by
    have e0 : copies_Commit_l1 (dks ds n) (q : Int) x (N + 1) s i = copies_Commit_l1_b (dks ds n) (q : Int) x (copies_Commit_l1 (dks ds n) (q : Int) x N) s i := rfl
    rw [e0]
    unfold copies_Commit_l1_b
    rw [dks_len]
    by_cases hlt : i < ds.length
    · rw [if_pos (by omega), dks_getD hlt]
      have hmul : (ds.length - i) * (L + 1) = (L + 1) + (ds.length - (i + 1)) * (L + 1) := by
        rw [show ds.length - i = (ds.length - (i + 1)) + 1 by omega, Nat.add_mul, Nat.one_mul, Nat.add_comm]
      have hLd := hl _ (hin i hlt)
      rcases prep_hold hLd (by omega) (h0 _ (hin i hlt)) hq hx with ⟨h2, _⟩ | ⟨_, ⟨t, h2, h3, h4, h5, h6⟩ | ⟨hf, _, t, h2, h3⟩⟩
      · have := hfit i hlt; omega
      · rw [h2]; simp only [Option.bind_some]
        rw [if_neg (by simp)]
        rw [hL] at h4
        have hoth : ∀ e, ds.getD i 0 ≠ e → e < ns.length → Lv ns (K + L + 1) e n t ∧ now t e = now s e := fun e hne he => by
          have := h3.other hne (hl e he) (by omega)
          rw [hL] at this; exact this
        have ih := commitF_l1 hx hq hL hd hin hfit hmq hKK N (i + 1) (K + L + 1) t (by omega) (by omega) (by omega) (fun e he => by
          by_cases hne : ds.getD i 0 = e
          · rw [← hne]; exact h4
          · exact (hoth e hne he).1) (fun e he => by
          by_cases hne : ds.getD i 0 = e
          · rw [← hne]; exact h5
          · rw [(hoth e hne he).2]; exact h0 e he) (fun e he => by
          by_cases hne : ds.getD i 0 = e
          · rw [← hne]
            show V _ (dQ (now t (ds.getD i 0) 1)).toNat
            rw [h6.dS.2.2]; exact hmq i hlt
          · show V _ (dQ (now t e 1)).toNat
            rw [(hoth e hne he).2]; exact hm e he) (fun j hj => by
          rcases Nat.lt_or_ge j i with hji | hji
          · have hne := hd j i hji hlt
            rw [(hoth _ (fun e => hne e.symm) (hin j (by omega))).2]
            exact h1 j hji
          · have : j = i := by omega
            rw [this]; exact h6)
        rcases ih with ⟨u, u1, u2, u3, u4, u5, u6, u7⟩ | ⟨hf, u, u1, u2⟩
        · refine .inl ⟨u, u1, fun e he => ?_, fun hf => u3 (by rw [h3.fuse, hf]; omega), u4, u5, u6, fun e he => ?_⟩
          · have := u2 e he
            rw [show K + (ds.length - i) * (L + 1) = K + L + 1 + (ds.length - (i + 1)) * (L + 1) by omega]
            exact this
          · rw [u7 e (fun j hj hjl => he j (by omega) hjl)]
            funext b
            rw [h3.now, if_neg (he i (Nat.le_refl _) hlt)]
        · exact .inr ⟨fun hf0 => hf (by rw [h3.fuse, hf0]; omega), u, u1, u2⟩
      · rw [h2]; simp only [Option.bind_some]
        rw [if_pos (by simp)]
        refine .inr ⟨hf, t, rfl, ?_⟩
        rw [hL] at h3
        refine aft_of (h3.ok.mono (by omega)) (fun e he => by rw [h3.miss]; exact (hl e he).ms) (fun e he => (hl e he).hn) hLd.h4 hLd.hb (by omega) (fun e => now s e) (fun e he => ⟨h0 e he, hm e he⟩) (fun e => if e = ds.getD i 0 then L else 0) (fun e he => ?_) (fun e he b hb hj => ?_)
        · show (if e = ds.getD i 0 then L else 0) + _ ≤ _
          split
          · rename_i hh; rw [hh]; exact hfit i hlt
          · have := (h0 e he).len; omega
        · rw [h3.cand e b he (by rw [(hl e he).hn]; exact hb) (fun hde j hjl => by
            have := hj j (by show j < (if e = ds.getD i 0 then L else 0); rw [if_pos hde.symm]; exact hjl)
            rw [← hde] at this; exact this)]
          exact (hl e he).cl b hb
    · rw [if_neg (by omega)]
      have e : i = ds.length := by omega
      refine .inl ⟨s, rfl, fun e he => ?_, fun h => h, h0, hm, fun j hj => h1 j (by omega), fun _ _ => rfl⟩
      rw [show ds.length - i = 0 by omega, Nat.zero_mul]; exact hl e he
theorem commitF_l2 {ds : List Nat} {T : Nat → Txt} {V : Nat → Nat → Prop} {KK : Nat} (hd : Dist ds) (hin : ∀ i, i < ds.length → ds.getD i 0 < ns.length) (hKK : KK ≤ 700000) : ∀ (N i K : Nat) (s : ArrS) (c : Nat → Option Txt), ds.length - i < N → i ≤ ds.length → K + (ds.length - i) ≤ KK → (∀ e, e < ns.length → Lv ns K e n s) →
    (∀ e, e < ns.length → Hold (now s e) (rgR n) 0 (c e)) → (∀ e, e < ns.length → V e (w1 s e)) → (∀ j, j < ds.length → Hold (now s (ds.getD j 0)) (rgR n) 1 (some (T (ds.getD j 0)))) → (∀ j, j < i → c (ds.getD j 0) = some (T (ds.getD j 0))) →
    (∃ t, copies_Commit_l2 (dks ds n) N s i = some (.inl t) ∧ (∀ e, e < ns.length → Lv ns (K + (ds.length - i)) e n t) ∧ (s.fuse = 0 → t.fuse = 0) ∧ (∀ e, e < ns.length → V e (w1 t e)) ∧ (∀ j, j < ds.length → Hold (now t (ds.getD j 0)) (rgR n) 0 (some (T (ds.getD j 0))) ∧ Hold (now t (ds.getD j 0)) (rgR n) 1 (some (T (ds.getD j 0)))) ∧
      (∀ e, (∀ j, i ≤ j → j < ds.length → ds.getD j 0 ≠ e) → now t e = now s e)) ∨
    (s.fuse ≠ 0 ∧ ∃ t c', copies_Commit_l2 (dks ds n) N s i = some (.inr (true, 5, t)) ∧ (∀ e, c' e = c e ∨ ∃ j, j < ds.length ∧ ds.getD j 0 = e ∧ c' e = some (T e)) ∧ Aft ns KK n c' V t)
  | 0, _, _, _, _, h, _, _, _, _, _, _, _ => absurd h (by omega)
  | N + 1, i, K, s, c, h, hi, hK, hl, h0, hm, h1, hc => by
    have e0 : copies_Commit_l2 (dks ds n) (N + 1) s i = copies_Commit_l2_b (dks ds n) (copies_Commit_l2 (dks ds n) N) s i := rfl
    rw [e0]
    unfold copies_Commit_l2_b
    rw [dks_len]
    by_cases hlt : i < ds.length
    · rw [if_pos (by omega), dks_getD hlt]
      have hLd := hl _ (hin i hlt)
      rcases switch_hold hLd (by omega) (h1 i hlt) with ⟨_, t, h2, h3, h4, h5⟩ | ⟨hf, t, h2, h3⟩
      · rw [h2]; simp only [Option.bind_some]
        rw [if_neg (by simp)]
        have hoth : ∀ e, ds.getD i 0 ≠ e → e < ns.length → Lv ns (K + 1) e n t ∧ now t e = now s e := fun e hne he => h3.other hne (hl e he) (by omega)
        have hown : Hold (now t (ds.getD i 0)) (rgR n) 1 (some (T (ds.getD i 0))) := by
          refine (h1 i hlt).congr (by rw [h3.nowD]; rfl) fun k _ => ?_
          rw [h3.nowD]
          unfold upd
          rw [if_neg (by have := plc_ge (r := rgR n) (st := oSt (some (T (ds.getD i 0)))) (i := k); omega)]
        have ih := commitF_l2 (T := T) (V := V) hd hin hKK N (i + 1) (K + 1) t (fun e => if e = ds.getD i 0 then some (T e) else c e) (by omega) (by omega) (by omega) (fun e he => by
          by_cases hne : ds.getD i 0 = e
          · rw [← hne]; exact h4
          · exact (hoth e hne he).1) (fun e he => by
          show Hold _ _ 0 (if e = ds.getD i 0 then some (T e) else c e)
          by_cases hne : ds.getD i 0 = e
          · rw [if_pos hne.symm, ← hne]; exact h5
          · rw [if_neg (fun x => hne x.symm), (hoth e hne he).2]; exact h0 e he) (fun e he => by
          by_cases hne : ds.getD i 0 = e
          · show V _ (dQ (now t e 1)).toNat
            have h9 := hm e he
            rw [← hne] at h9 ⊢
            rw [hown.2.1, ← (h1 i hlt).2.1]; exact h9
          · show V _ (dQ (now t e 1)).toNat
            rw [(hoth e hne he).2]; exact hm e he) (fun j hj => by
          by_cases hne : ds.getD i 0 = ds.getD j 0
          · rw [← hne]; exact hown
          · rw [(hoth _ hne (hin j hj)).2]; exact h1 j hj) (fun j hj => by
          show (if ds.getD j 0 = ds.getD i 0 then some (T (ds.getD j 0)) else c (ds.getD j 0)) = _
          split
          · rfl
          · rename_i hne
            rcases Nat.lt_or_ge j i with hji | hji
            · exact hc j hji
            · exact absurd (by rw [show j = i by omega]) hne)
        rcases ih with ⟨u, u1, u2, u3, u4, u5, u6⟩ | ⟨hf, u, c', u1, u2, u3⟩
        · refine .inl ⟨u, u1, fun e he => ?_, fun hf => u3 (by rw [h3.fuse, hf]), u4, u5, fun e he => ?_⟩
          · have := u2 e he
            rw [show K + (ds.length - i) = K + 1 + (ds.length - (i + 1)) by omega]
            exact this
          · rw [u6 e (fun j hj hjl => he j (by omega) hjl)]
            funext b
            rw [h3.now, if_neg (fun x => he i (Nat.le_refl _) hlt x.1)]
        · refine .inr ⟨fun hf0 => hf (by rw [h3.fuse, hf0]), u, c', u1, fun e => ?_, u3⟩
          rcases u2 e with h9 | h9
          · rw [h9]
            by_cases hne : e = ds.getD i 0
            · rw [if_pos hne]; exact .inr ⟨i, hlt, hne.symm, rfl⟩
            · rw [if_neg hne]; exact .inl rfl
          · exact .inr h9
      · rw [h2]; simp only [Option.bind_some]
        rw [if_pos (by simp)]
        refine .inr ⟨by omega, t, c, rfl, fun e => .inl rfl, ?_⟩
        refine aft_of (h3.ok.mono (by omega)) (fun e he => by rw [h3.miss]; exact (hl e he).ms) (fun e he => (hl e he).hn) hLd.h4 hLd.hb (by omega) (fun e => now s e) (fun e he => ⟨h0 e he, hm e he⟩) (fun _ => 0) (fun e he => ?_) (fun e he b hb hj => ?_)
        · have := (h0 e he).len; show 0 + _ ≤ _; omega
        · rw [h3.cand]; exact (hl e he).cl b hb
    · rw [if_neg (by omega)]
      have hlen : i = ds.length := by omega
      refine .inl ⟨s, rfl, fun e he => ?_, fun h => h, hm, fun j hj => ⟨?_, h1 j hj⟩, fun _ _ => rfl⟩
      · rw [show ds.length - i = 0 by omega]; exact hl e he
      · rw [← hc j (by omega)]; exact h0 _ (hin j hj)
theorem commitF {ds : List Nat} {q K M : Nat} {x : ByteArray} {c : Nat → Option Txt} {m : Nat → Nat} {L KK : Nat} {s : ArrS} (hx : x.size ≤ 8192) (hq : 1 ≤ q ∧ q ≤ 1048575) (hL : (encT x).length = L) (hd : Dist ds) (hin : ∀ i, i < ds.length → ds.getD i 0 < ns.length) (h0 : ds.length ≠ 0) (h100 : ds.length ≤ 100)
    (hfit : ∀ i, i < ds.length → L + oLen (c (ds.getD i 0)) ≤ rgR n) (hmq : ∀ i, i < ds.length → m (ds.getD i 0) ≤ q) (hqM : q ≤ M) (hKK : KK ≤ 700000) (hK : K + ds.length * (L + 2) ≤ KK) (hl : ∀ e, e < ns.length → Lv ns K e n s) (hh : ∀ e, e < ns.length → Hold (now s e) (rgR n) 0 (c e)) (hm : ∀ e, e < ns.length → m e ≤ w1 s e ∧ w1 s e ≤ M) :
    (∃ t, copies_Commit (dks ds n) (q : Int) x s = some (true, 0, t) ∧ (∀ e, e < ns.length → Lv ns KK e n t) ∧ (s.fuse = 0 → t.fuse = 0) ∧ (∀ e, e < ns.length → m e ≤ w1 t e ∧ w1 t e ≤ M) ∧
      (∀ j, j < ds.length → Hold (now t (ds.getD j 0)) (rgR n) 0 (some ⟨q, nextSt (rgR n) (c (ds.getD j 0)), x⟩) ∧ Hold (now t (ds.getD j 0)) (rgR n) 1 (some ⟨q, nextSt (rgR n) (c (ds.getD j 0)), x⟩)) ∧
      (∀ e, (∀ j, j < ds.length → ds.getD j 0 ≠ e) → now t e = now s e)) ∨
    (s.fuse ≠ 0 ∧ ∃ (sw : Bool) (t : ArrS) (c' : Nat → Option Txt) (m' : Nat → Nat), copies_Commit (dks ds n) (q : Int) x s = some (sw, 5, t) ∧ Aft ns KK n c' (fun e w => m' e ≤ w ∧ w ≤ M) t ∧ (∀ e, e < ns.length → m e ≤ m' e) ∧ (∀ e, c' e = c e ∨ ((∃ j, j < ds.length ∧ ds.getD j 0 = e) ∧ c' e = some ⟨q, nextSt (rgR n) (c e), x⟩ ∧ ∀ j, j < ds.length → q ≤ m' (ds.getD j 0)))) := by
  unfold copies_Commit
  rw [dks_len, if_neg (by omega)]
  have hF := fuel_big
  generalize FUEL = N at hF ⊢
  have hE := encT_lt hx
  have hb : ds.length * (L + 1) + ds.length = ds.length * (L + 2) := by rw [← Nat.mul_succ]
  rcases commitF_l1 (ns := ns) (n := n) (V := fun e w => m e ≤ w ∧ w ≤ M) hx hq hL hd hin hfit (fun i hi => ⟨hmq i hi, hqM⟩) hKK N 0 K s (by omega) (by omega) (by simp only [Nat.sub_zero]; omega) hl hh hm (fun j hj => absurd hj (by omega)) with ⟨t, t1, t2, t3, t4, t5, t6, t7⟩ | ⟨hf, t, t1, t2⟩
  · rw [t1]
    simp only [seqO, Option.bind_some, Sum.elim_inl]
    simp only [Nat.sub_zero] at t2
    have hq1 : ∀ j, j < ds.length → w1 t (ds.getD j 0) = q := fun j hj => (t6 j hj).dS.2.2
    rcases commitF_l2 (ns := ns) (n := n) (ds := ds) (T := fun d => ⟨q, nextSt (rgR n) (c d), x⟩) (V := fun e w => w1 t e ≤ w ∧ w ≤ M) hd hin hKK N 0 _ t c (by omega) (by omega) (by simp only [Nat.sub_zero]; omega) t2 t4 (fun e he => ⟨Nat.le_refl _, (t5 e he).2⟩) t6 (fun j hj => absurd hj (by omega)) with ⟨u, u1, u2, u3, u4, u5, u6⟩ | ⟨hf, u, c', u1, u2, u3⟩
    · rw [u1]
      simp only [Option.bind_some, Sum.elim_inl]
      simp only [Nat.sub_zero] at u2
      exact .inl ⟨u, rfl, fun e he => (u2 e he).mono (by omega) (by omega), fun h => u3 (t3 h), fun e he => ⟨Nat.le_trans (t5 e he).1 (u4 e he).1, (u4 e he).2⟩, u5, fun e he => by rw [u6 e (fun j _ hj => he j hj), t7 e (fun j _ hj => he j hj)]⟩
    · rw [u1]
      simp only [Option.bind_some, Sum.elim_inr]
      refine .inr ⟨fun h => hf (t3 h), true, u, c', fun e => w1 t e, rfl, u3, fun e he => (t5 e he).1, fun e => ?_⟩
      rcases u2 e with h9 | ⟨j, h8, h9, h10⟩
      · exact .inl h9
      · exact .inr ⟨⟨j, h8, h9⟩, h10, fun j hj => Nat.le_of_eq (hq1 j hj).symm⟩
  · rw [t1]
    simp only [seqO, Option.bind_some, Sum.elim_inr]
    exact .inr ⟨hf, false, t, c, m, rfl, t2, fun _ _ => Nat.le_refl _, fun e => .inl rfl⟩
theorem great_fold {s : ArrS} {g : Nat} : ∀ (ds : List Nat) (a : Int), a ≤ (g : Int) → (∀ d, d ∈ ds → (dQ (now s d 0)).toNat ≤ g ∧ w1 s d ≤ g) →
    a ≤ ds.foldl (fun m d => max m (max ((dQ (now s d 0)).toNat : Int) ((dQ (now s d 1)).toNat : Int))) a ∧ ds.foldl (fun m d => max m (max ((dQ (now s d 0)).toNat : Int) ((dQ (now s d 1)).toNat : Int))) a ≤ (g : Int) ∧
      ∀ d, d ∈ ds → ((dQ (now s d 0)).toNat : Int) ≤ ds.foldl (fun m d => max m (max ((dQ (now s d 0)).toNat : Int) ((dQ (now s d 1)).toNat : Int))) a ∧ (w1 s d : Int) ≤ ds.foldl (fun m d => max m (max ((dQ (now s d 0)).toNat : Int) ((dQ (now s d 1)).toNat : Int))) a
  | [], a, ha, _ => ⟨Int.le_refl _, ha, fun d h => nomatch h⟩
  | d :: ds, a, ha, h => by
    have h4 := h d (by simp)
    have h5 : w1 s d = (dQ (now s d 1)).toNat := rfl
    obtain ⟨h1, h2, h3⟩ := great_fold ds (max a (max ((dQ (now s d 0)).toNat : Int) ((dQ (now s d 1)).toNat : Int))) (by omega) (fun e he => h e (List.mem_cons_of_mem _ he))
    rw [List.foldl_cons]
    refine ⟨by omega, h2, fun e he => ?_⟩
    rcases List.mem_cons.1 he with he | he
    · rw [he]; omega
    · exact h3 e he
theorem greatR_spec {s : ArrS} {g : Nat} (ds : List Nat) (h : ∀ d, d ∈ ds → (dQ (now s d 0)).toNat ≤ g ∧ w1 s d ≤ g) : 0 ≤ greatR s ds ∧ greatR s ds ≤ (g : Int) ∧ ∀ d, d ∈ ds → ((dQ (now s d 0)).toNat : Int) ≤ greatR s ds ∧ (w1 s d : Int) ≤ greatR s ds :=
  great_fold ds 0 (by omega) h
section
variable {K : Nat} {s : ArrS} {ds : List Nat}
theorem set1_eq {e : Int} {v : Bool} {q : Int} {x : ByteArray} : copies_Settle_1 e v q x = some (if e ≠ 0 then (false, 0, ByteArray.empty) else (v, q, x)) := by
  unfold copies_Settle_1
  split <;> rfl
theorem settle_go {s' : ArrS} (hl : ∀ i, i < ds.length → Lv ns K (ds.getD i 0) n s) (h100 : ds.length ≤ 1000) {k : Nat} (hc : copies_Choose (copiesR s n ds) = some ((k : Int), 0)) (hk : k < ds.length) (h0 : 0 ≤ greatR s ds) (hg : greatR s ds < (1048575 : Int))
    (hlo : copies_Settle_l1 (dks ds n) FUEL s 0 = some (.inl s')) {r : Bool × Int × ArrS} (hr : copies_Commit (dks ds n) (greatR s ds + 1) ((copiesR s n ds).getD k zC).Text s' = some r) :
    copies_Settle (dks ds n) s = some (if r.2.1 ≠ 0 then zC else ⟨true, greatR s ds + 1, ((copiesR s n ds).getD k zC).Text⟩, r.2.1, r.2.2) := by
  unfold copies_Settle
  rw [scan_eq hl h100]; simp only [Option.bind_some]
  rw [if_neg (by simp), hc]; simp only [Option.bind_some]
  rw [if_neg (by decide)]
  unfold copies_Next
  rw [if_neg (by omega), if_neg (by omega)]; simp only [Option.bind_some]
  have hkl : k < (copiesR s n ds).length := by simp [copiesR, hk]
  rw [if_neg (by decide), hlo]
  simp only [seqO, Option.bind_some, Sum.elim_inl]
  rw [grd_pos (decide_eq_true (by omega)), Int.toNat_natCast, show copies_Commit (dks ds n) (greatR s ds + 1) ((copiesR s n ds).getD k (⟨false, 0, ByteArray.empty⟩ : api_Copy)).Text s' = _ from hr]; simp only [Option.bind_some]
  rw [grd_pos (decide_eq_true (by omega)), set1_eq]; simp only [Option.bind_some]
  split <;> rfl
theorem settle_skip {c : Nat → Option Txt} (hl : ∀ i, i < ds.length → Lv ns K (ds.getD i 0) n s) (hh : ∀ i, i < ds.length → Hold (now s (ds.getD i 0)) (rgR n) 0 (c (ds.getD i 0))) : ∀ (N i : Nat), ds.length - i < N → copies_Settle_l1 (dks ds n) N s i = some (.inl s)
  | 0, _, h => absurd h (by omega)
  | N + 1, i, h => by
    show copies_Settle_l1_b _ _ _ _ = _
    unfold copies_Settle_l1_b
    rw [dks_len]
    by_cases hlt : i < ds.length
    · rw [if_pos (by omega), dks_getD hlt, look_eq (hl i hlt)]; simp only [Option.bind_some]
      have h1 : (foundR (now s (ds.getD i 0)) (rgR n)).error ≠ 11 := by
        have h2 := hh i hlt
        show (readR (now s (ds.getD i 0)) (rgR n)).2 ≠ 11
        unfold readR
        cases hc : c (ds.getD i 0) with
        | none => rw [hc] at h2; rw [if_pos (show now s (ds.getD i 0) 0 = 0 from h2)]; decide
        | some t => rw [hc] at h2; rw [if_neg (fun x => nomatch h2.ne.1 x), h2.whole, if_pos rfl]; exact (by decide : (0 : Int) ≠ 11)
      rw [if_neg h1]
      exact settle_skip hl hh N (i + 1) (by omega)
    · rw [if_neg (by omega)]
end
end
end Go.Proofs
namespace Go.Proofs
open Go.VG
theorem read_txt {A : Nat → UInt64} {r : Nat} {t : Txt} (hh : Hold A r 0 (some t)) : (readR A r).1 = ⟨true, (t.q : Int), t.s⟩ := by
  unfold readR
  rw [if_neg (fun x => nomatch hh.ne.1 x), hh.whole, if_pos rfl, hh.dS.2.2]
structure HI (ns : List Nat) (K n M : Nat) (s : ArrS) (c : Nat → Txt) : Prop where
  lv : ∀ e, e < ns.length → Lv ns K e n s
  hold : ∀ e, e < ns.length → Hold (now s e) (rgR n) 0 (some (c e))
  low : ∀ e, e < ns.length → (c e).q ≤ w1 s e
  hi : ∀ e, e < ns.length → w1 s e ≤ M
  sz : ∀ e, e < ns.length → (c e).s.size ≤ 8
  un : ∀ e f, e < ns.length → f < ns.length → (c e).q = (c f).q → (c e).s = (c f).s
def In (ds : List Nat) (e : Nat) : Prop := ∃ j, j < ds.length ∧ ds.getD j 0 = e
theorem enc8 {x : ByteArray} (h : x.size ≤ 8) : (encT x).length ≤ 2 := by rw [encT_len]; unfold bytesN; omega
section
variable {ns : List Nat} {K n M g KK : Nat} {s : ArrS} {c : Nat → Txt} {ds : List Nat} {x : ByteArray}
theorem HI.fuse (h : HI ns K n M s c) {f : Nat} : HI ns K n M { s with fuse := f } c := ⟨fun e he => (h.lv e he).fuse, h.hold, h.low, h.hi, h.sz, h.un⟩
theorem HI.mono {K' M' : Nat} (h : HI ns K n M s c) (hK : K ≤ K') (h9 : K' ≤ 900000) (hM : M ≤ M') : HI ns K' n M' s c := ⟨fun e he => (h.lv e he).mono hK h9, h.hold, h.low, fun e he => Nat.le_trans (h.hi e he) hM, h.sz, h.un⟩
theorem HI.q0 (h : HI ns K n M s c) {e : Nat} (he : e < ns.length) : (dQ (now s e 0)).toNat = (c e).q := (h.hold e he).dS.2.2
theorem HI.great (h : HI ns K n M s c) (hin : ∀ i, i < ds.length → ds.getD i 0 < ns.length) : ∃ g : Nat, greatR s ds = (g : Int) ∧ g ≤ M ∧ ∀ j, j < ds.length → w1 s (ds.getD j 0) ≤ g := by
  have hmem : ∀ d, d ∈ ds → ∃ i, i < ds.length ∧ ds.getD i 0 = d := fun d hd => by
    obtain ⟨i, hi, e⟩ := List.getElem_of_mem hd
    exact ⟨i, hi, by simp [List.getD_eq_getElem?_getD, hi, e]⟩
  obtain ⟨h1, h2, h3⟩ := greatR_spec (s := s) (g := M) ds (fun d hd => by
    obtain ⟨i, hi, e⟩ := hmem d hd
    have hd' : d < ns.length := by rw [← e]; exact hin i hi
    rw [h.q0 hd']
    have := h.low d hd'; have := h.hi d hd'
    omega)
  refine ⟨(greatR s ds).toNat, by omega, by omega, fun j hj => ?_⟩
  have := (h3 (ds.getD j 0) (by rw [show ds.getD j 0 = ds[j] by simp [List.getD_eq_getElem?_getD, hj]]; exact List.getElem_mem hj)).2
  omega
theorem HI.commit (h : HI ns K n M s c) (hd : Dist ds) (hin : ∀ i, i < ds.length → ds.getD i 0 < ns.length) (h0 : ds.length ≠ 0) (h8 : ds.length ≤ 8) (hx : x.size ≤ 8) (hr : 4 ≤ rgR n) (hM : M < 1048575) (hKK : KK ≤ 700000) (hK : K + 32 ≤ KK)
    (hg : greatR s ds = (g : Int)) (cov : ∀ e, e < ns.length → (c e).q ≤ g) :
    (∃ (t : ArrS) (c' : Nat → Txt), copies_Commit (dks ds n) (greatR s ds + 1) x s = some (true, 0, t) ∧ HI ns KK n (M + 1) t c' ∧ (s.fuse = 0 → t.fuse = 0) ∧ (∀ e, e < ns.length → w1 s e ≤ w1 t e) ∧ (∀ e, In ds e → (c' e).q = g + 1 ∧ (c' e).s = x ∧ w1 t e = g + 1) ∧ (∀ e, ¬ In ds e → c' e = c e)) ∨
    (s.fuse ≠ 0 ∧ ∃ (sw : Bool) (t : ArrS) (c' : Nat → Txt) (m' : Nat → Nat), copies_Commit (dks ds n) (greatR s ds + 1) x s = some (sw, 5, t) ∧ t.writes ≤ KK ∧ (∀ (f : Nat) (ks : List Bool), HI ns KK n (M + 1) (rsS { t with fuse := f } ks) c' ∧ ∀ e, e < ns.length → m' e ≤ w1 (rsS { t with fuse := f } ks) e) ∧ (∀ e, e < ns.length → w1 s e ≤ m' e) ∧
      (∀ e, c' e = c e ∨ (In ds e ∧ (c' e).q = g + 1 ∧ (c' e).s = x ∧ ∀ j, j < ds.length → g + 1 ≤ m' (ds.getD j 0)))) := by
  obtain ⟨g', hg', hgM, hgw⟩ := h.great hin
  have hgg : g' = g := by omega
  subst hgg
  have hL := enc8 hx
  have ho : ∀ e, e < ns.length → oLen (some (c e)) ≤ 2 := fun e he => enc8 (h.sz e he)
  have hmul : ds.length * ((encT x).length + 2) ≤ 8 * 4 := Nat.mul_le_mul h8 (by omega)
  rw [show greatR s ds + 1 = ((g' + 1 : Nat) : Int) by omega]
  rcases commitF (ns := ns) (n := n) (s := s) (ds := ds) (q := g' + 1) (K := K) (M := M + 1) (x := x) (c := fun e => some (c e)) (m := fun e => w1 s e) (KK := KK) (by omega) (by omega) rfl hd hin h0 (by omega) (fun i hi => by have := ho _ (hin i hi); omega) (fun i hi => by have := hgw i hi; omega) (by omega) hKK (by omega) h.lv h.hold (fun e he => ⟨Nat.le_refl _, by have := h.hi e he; omega⟩) with
    ⟨t, t1, t2, t3, t4, t5, t6⟩ | ⟨hf, sw, t, c', m', t1, t2, t3, t4⟩
  · classical
    refine .inl ⟨t, fun e => if In ds e then ⟨g' + 1, nextSt (rgR n) (some (c e)), x⟩ else c e, t1, ?_, t3, fun e he => (t4 e he).1, fun e he => ?_, fun e he => if_neg he⟩
    · have hH : ∀ e, e < ns.length → Hold (now t e) (rgR n) 0 (some (if In ds e then ⟨g' + 1, nextSt (rgR n) (some (c e)), x⟩ else c e)) := fun e he => by
        by_cases hi : In ds e
        · rw [if_pos hi]
          obtain ⟨j, hj, hje⟩ := hi
          have := (t5 j hj).1
          rw [hje] at this; exact this
        · rw [if_neg hi, t6 e (fun j hj hje => hi ⟨j, hj, hje⟩)]; exact h.hold e he
      refine ⟨t2, hH, fun e he => ?_, fun e he => (t4 e he).2, fun e he => ?_, fun e f he hf => ?_⟩
      · by_cases hi : In ds e
        · rw [if_pos hi]
          obtain ⟨j, hj, hje⟩ := hi
          have := (t5 j hj).2.dS.2.2
          rw [hje] at this
          exact Nat.le_of_eq this.symm
        · rw [if_neg hi]; exact Nat.le_trans (h.low e he) (t4 e he).1
      · by_cases hi : In ds e
        · rw [if_pos hi]; exact hx
        · rw [if_neg hi]; exact h.sz e he
      · have c1 := cov e he; have c2 := cov f hf
        by_cases hi : In ds e
        · by_cases hj : In ds f
          · rw [if_pos hi, if_pos hj]; exact fun _ => rfl
          · rw [if_pos hi, if_neg hj]; intro hq; exact absurd hq (by show ¬ g' + 1 = (c f).q; omega)
        · by_cases hj : In ds f
          · rw [if_neg hi, if_pos hj]; intro hq; exact absurd hq (by show ¬ (c e).q = g' + 1; omega)
          · rw [if_neg hi, if_neg hj]; exact h.un e f he hf
    · show (if In ds e then _ else _ : Txt).q = _ ∧ (if In ds e then _ else _ : Txt).s = _ ∧ _
      rw [if_pos he]
      obtain ⟨j, hj, hje⟩ := he
      have := (t5 j hj).2.dS.2.2
      rw [hje] at this
      exact ⟨rfl, rfl, this⟩
  · refine .inr ⟨hf, sw, t, fun e => (c' e).getD (c e), m', t1, t2.1, ?_, t3, ?_⟩
    · have hc : ∀ e, c' e = some ((c' e).getD (c e)) := fun e => by
        rcases t4 e with h9 | ⟨_, h9, _⟩ <;> rw [h9] <;> rfl
      have hd' : ∀ e, ((c' e).getD (c e) = c e) ∨ (In ds e ∧ (c' e).getD (c e) = ⟨g' + 1, nextSt (rgR n) (some (c e)), x⟩ ∧ ∀ j, j < ds.length → g' + 1 ≤ m' (ds.getD j 0)) := fun e => by
        rcases t4 e with h9 | ⟨h8, h9, h10⟩
        · exact .inl (by rw [h9]; rfl)
        · exact .inr ⟨h8, by rw [h9]; rfl, h10⟩
      intro f ks
      refine ⟨⟨fun e he => (t2.2 f ks e he).1, fun e he => ?_, fun e he => ?_, fun e he => (t2.2 f ks e he).2.2.2, fun e he => ?_, fun e e2 he he2 => ?_⟩, fun e he => (t2.2 f ks e he).2.2.1⟩
      · rw [← hc e]; exact (t2.2 f ks e he).2.1
      · have hw := (t2.2 f ks e he).2.2.1
        rcases hd' e with h9 | ⟨⟨j, hj, hje⟩, h9, h10⟩
        · rw [h9]; exact Nat.le_trans (h.low e he) (Nat.le_trans (t3 e he) hw)
        · rw [h9]
          have := h10 j hj
          rw [hje] at this
          exact Nat.le_trans this hw
      · rcases hd' e with h9 | ⟨_, h9, _⟩
        · rw [h9]; exact h.sz e he
        · rw [h9]; exact hx
      · have c1 := cov e he; have c2 := cov e2 he2
        rcases hd' e with h9 | ⟨_, h9, _⟩ <;> rcases hd' e2 with h8' | ⟨_, h8', _⟩ <;> rw [h9, h8']
        · exact h.un e e2 he he2
        · intro hq; exact absurd hq (by show ¬ (c e).q = g' + 1; omega)
        · intro hq; exact absurd hq (by show ¬ g' + 1 = (c e2).q; omega)
        · exact fun _ => rfl
    · intro e
      rcases t4 e with h9 | ⟨h8, h9, h10⟩
      · exact .inl (by show (c' e).getD _ = _; rw [h9]; rfl)
      · refine .inr ⟨h8, ?_, ?_, h10⟩
        · show ((c' e).getD _).q = _; rw [h9]; rfl
        · show ((c' e).getD _).s = _; rw [h9]; rfl
theorem HI.copies (h : HI ns K n M s c) (hin : ∀ i, i < ds.length → ds.getD i 0 < ns.length) {i : Nat} (hi : i < ds.length) : (copiesR s n ds).getD i zC = ⟨true, ((c (ds.getD i 0)).q : Int), (c (ds.getD i 0)).s⟩ := by
  have : (copiesR s n ds).getD i zC = (readR (now s (ds.getD i 0)) (rgR n)).1 := by
    simp [copiesR, List.getD_eq_getElem?_getD, hi]
  rw [this, read_txt (h.hold _ (hin i hi))]
theorem HI.settle (h : HI ns K n M s c) (hin : ∀ i, i < ds.length → ds.getD i 0 < ns.length) (h0 : ds.length ≠ 0) (h8 : ds.length ≤ 8) (hM : M < 1048575) (hg : greatR s ds = (g : Int)) :
    ∃ k, k < ds.length ∧ (∀ j, j < ds.length → (c (ds.getD j 0)).q ≤ (c (ds.getD k 0)).q) ∧ ∀ r, copies_Commit (dks ds n) (greatR s ds + 1) (c (ds.getD k 0)).s s = some r →
      copies_Settle (dks ds n) s = some (if r.2.1 ≠ 0 then zC else ⟨true, ((g + 1 : Nat) : Int), (c (ds.getD k 0)).s⟩, r.2.1, r.2.2) := by
  have hcl : (copiesR s n ds).length = ds.length := by simp [copiesR]
  obtain ⟨g', hg', hgM, hgw⟩ := h.great hin
  rcases choose_spec (copiesR s n ds) (by omega) with ⟨_, c2⟩ | ⟨k, k1, k2, k3, ⟨_, j, j1, j2⟩ | ⟨c1, _⟩⟩
  · have := c2 0 (by omega)
    rw [h.copies hin (by omega)] at this; cases this
  · rw [hcl] at j1 k1
    unfold Clash at j2
    rw [h.copies hin j1, h.copies hin k1] at j2
    have e1 : (c (ds.getD j 0)).q = (c (ds.getD k 0)).q := by have := j2.2.1; simp only at this; omega
    exact absurd (h.un _ _ (hin j j1) (hin k k1) e1) j2.2.2
  · rw [hcl] at k1
    refine ⟨k, k1, fun j hj => ?_, fun r hr => ?_⟩
    · have := k3 j (by omega)
      rw [h.copies hin hj, h.copies hin k1] at this
      have := this rfl
      simp only at this; omega
    · have := settle_go (r := r) (s' := s) (fun i hi => h.lv _ (hin i hi)) (by omega) c1 k1 (by omega) (by omega) (settle_skip (c := fun e => some (c e)) (fun i hi => h.lv _ (hin i hi)) (fun i hi => h.hold _ (hin i hi)) FUEL 0 (by have := fuel_big; omega)) (by rw [h.copies hin k1]; exact hr)
      rw [this, h.copies hin k1, hg]; rfl
theorem HI.rs (h : HI ns K n M s c) (h0 : 0 < ns.length) (ks : List Bool) : HI ns K n M (rsS s ks) c := by
  have hl := h.lv 0 h0
  have A := aft_of (ns := ns) (n := n) (c := fun e => some (c e)) (V := fun e w => w = w1 s e) hl.ok (fun e he => (h.lv e he).ms) (fun e he => (h.lv e he).hn) hl.h4 hl.hb hl.hK (fun e => now s e) (fun e he => ⟨h.hold e he, rfl⟩) (fun _ => 0) (fun e he => by have := (h.hold e he).len; show 0 + _ ≤ _; omega) (fun e he b hb _ => (h.lv e he).cl b hb)
  have R := A.rs ks
  exact ⟨fun e he => (R e he).1, fun e he => (R e he).2.1, fun e he => by rw [(R e he).2.2]; exact h.low e he, fun e he => by rw [(R e he).2.2]; exact h.hi e he, h.sz, h.un⟩
end
theorem range_getD {m i : Nat} (h : i < m) : (List.range m).getD i 0 = i := by simp [List.getD_eq_getElem?_getD, h]
theorem range_dist (m : Nat) : Dist (List.range m) := fun i j h1 h2 => by
  have hj : j < m := by simpa using h2
  rw [range_getD (show i < m by omega), range_getD hj]; omega
theorem start_ok {m n : Nat} {x : ByteArray} (hm : 1 ≤ m ∧ m ≤ 8) (hn : 6 ≤ n ∧ n ≤ 1000) (hx : x.size ≤ 8) :
    ∃ t c, copies_Commit (dks (List.range m) n) 1 x (mkS (List.replicate m (List.replicate n 0))) = some (true, 0, t) ∧ HI (List.replicate m n) 40 n 1 t c ∧ t.fuse = 0 ∧ ∀ e, e < m → (c e).q = 1 ∧ (c e).s = x ∧ w1 t e = 1 := by
  obtain ⟨r1, r2, r3⟩ := rg_le (n := n) (by omega) (by omega)
  have hL := enc8 hx
  have hr : m * ((encT x).length + 1) ≤ 8 * 3 := Nat.mul_le_mul hm.2 (by omega)
  obtain ⟨t, t1, t2, t3, t4, -⟩ := commit_ok (ns := List.replicate m n) (n := n) (K := 0) (ds := List.range m) (q := 1) (x := x) (c := fun _ => none) (s := mkS (List.replicate m (List.replicate n 0))) (by omega) (by omega) rfl (range_dist m) (fun i hi => by
    have hi' : i < m := by simpa using hi
    rw [range_getD hi']; simpa using hi') (by simp; omega) (by simp; omega) (fun i _ => by show _ + 0 ≤ _; omega) (by omega) (fun e he => lvA_mkS (by simpa using he) (by omega)) rfl (fun e _ => by show now _ e 0 = 0; exact now0A)
  have hh : ∀ e, e < m → Hold (now t e) (rgR n) 0 (some ⟨1, nextSt (rgR n) none, x⟩) ∧ Hold (now t e) (rgR n) 1 (some ⟨1, nextSt (rgR n) none, x⟩) := fun e he => by
    have := t4 e (by simpa using he)
    rw [range_getD he] at this; exact this
  have hw : ∀ e, e < m → w1 t e = 1 := fun e he => (hh e he).2.dS.2.2
  refine ⟨t, fun _ => ⟨1, nextSt (rgR n) none, x⟩, t1, ⟨fun e he => (t2 e he).mono (by simp; omega) (by omega), fun e he => (hh e (by simpa using he)).1, fun e he => by rw [hw e (by simpa using he)]; exact Nat.le_refl _, fun e he => by rw [hw e (by simpa using he)]; exact Nat.le_refl _, fun _ _ => hx, fun _ _ _ _ _ => rfl⟩, t3, fun e he => ⟨rfl, rfl, hw e he⟩⟩
end Go.Proofs
namespace Go.VG
def andW (a m : Int) : Int := IntKind.i64.wrap ((BitVec.ofInt 64 a &&& BitVec.ofInt 64 m).toNat : Int)
def orW (a m : Int) : Int := IntKind.i64.wrap ((BitVec.ofInt 64 a ||| BitVec.ofInt 64 m).toNat : Int)
section
variable {P : Program} {n : Env} {s : Slots} {dst : Option Tmp} {ty : TypeId} {pos : String} {after : Array Edge} {g : Option (Nat × Bool)} {x y : Operand} {t t' : TypeId}
theorem P_andW {a m : Int} (hx : ev s x = some (.int .i64 a)) (hy : ev s y = some (.int .i64 m)) : PJ P n ⟨dst, .binOp .and t x y t', ty, pos, after, g⟩ s (.int .i64 (andW a m)) := fun q w hf => by
  simp only [execOp, hf.eval hx, hf.eval hy]
  rfl
theorem P_orW {a m : Int} (hx : ev s x = some (.int .i64 a)) (hy : ev s y = some (.int .i64 m)) : PJ P n ⟨dst, .binOp .or t x y t', ty, pos, after, g⟩ s (.int .i64 (orW a m)) := fun q w hf => by
  simp only [execOp, hf.eval hx, hf.eval hy]
  rfl
theorem P_addStr {a b : ByteArray} (hx : ev s x = some (.string a)) (hy : ev s y = some (.string b)) (h : a.size + b.size ≤ 1000000000) : PJ P n ⟨dst, .binOp .add t x y t', ty, pos, after, g⟩ s (.string (a ++ b)) := fun q w hf => by
  have h1 : ¬ (((a.size + b.size : Nat) : Int) > IntKind.i64.max) := by
    have : IntKind.i64.max = 9223372036854775807 := by decide
    omega
  simp only [execOp, hf.eval hx, hf.eval hy, eqGuard, binOp, Op.stringOp, if_neg h1]
  rfl
end
end Go.VG
set_option linter.unusedSimpArgs false
set_option linter.unusedVariables false
set_option maxRecDepth 20000
set_option maxHeartbeats 4000000
namespace Go.Proofs
open Go.VG
@[ext] structure volumegrouplaw13_Try where
  Bits : UInt8
  Fuse : UInt8
  Settle : Bool
  Keep : UInt64
  deriving DecidableEq
abbrev tyvolumegrouplaw13_Try : Ty volumegrouplaw13_Try := { T := 90, sz := 4, enc := fun x => [.int .u8 (x.Bits.toNat : Int), .int .u8 (x.Fuse.toNat : Int), .bool x.Settle, .int .u64 (x.Keep.toNat : Int)], dflt := ⟨0, 0, false, 0⟩, len := fun _ => rfl, one := fun _ => rfl, pos := by decide }
theorem bs_43_1_0 (v0 : ByteArray) : BuildsSlice Try.prog 43 1 [(0, .string v0)] 9 [.string v0] := fun w => by kernel_rfl
theorem bs_43_12_0_1_2_3_4_5_6_7_8_9_10_11 (v0 : ByteArray) (v1 : ByteArray) (v2 : ByteArray) (v3 : ByteArray) (v4 : ByteArray) (v5 : ByteArray) (v6 : ByteArray) (v7 : ByteArray) (v8 : ByteArray) (v9 : ByteArray) (v10 : ByteArray) (v11 : ByteArray) : BuildsSlice Try.prog 43 12 [(0, .string v0), (1, .string v1), (2, .string v2), (3, .string v3), (4, .string v4), (5, .string v5), (6, .string v6), (7, .string v7), (8, .string v8), (9, .string v9), (10, .string v10), (11, .string v11)] 9 [.string v0, .string v1, .string v2, .string v3, .string v4, .string v5, .string v6, .string v7, .string v8, .string v9, .string v10, .string v11] := fun w => by kernel_rfl
def volumegrouplaw13_CopiesHistory_l2_b (x29 : List Int) (rec : Int → Nat → Option (Int)) (x42 : Int) (x43 : Nat) : Option (Int) :=
  if (((x43 : Nat) : Int) < ((x29.length : Nat) : Int)) then
    if ((andW x42 (x29.getD x43 0)) = (0 : Int)) then
      grd (inI64 (0 - (x29.getD x43 0))) <|
      rec ((orW x42 ((andW (x29.getD x43 0) ((0 - (x29.getD x43 0))))))) (x43 + 1)
    else
      rec x42 (x43 + 1)
  else
    some x42
def volumegrouplaw13_CopiesHistory_l2 (x29 : List Int) : Nat → Int → Nat → Option (Int)
  | 0, _, _ => none
  | n + 1, x42, x43 => volumegrouplaw13_CopiesHistory_l2_b x29 (volumegrouplaw13_CopiesHistory_l2 x29 n) x42 x43
def volumegrouplaw13_CopiesHistory_l5_b (x31 : List ByteArray) (r79 : api_Copy × Int × ArrS) (rec : Bool → Nat → Option (Bool)) (x87 : Bool) (x88 : Nat) : Option (Bool) :=
  if (((x88 : Nat) : Int) < ((x31.length : Nat) : Int)) then
    if x87 = true then
      rec true (x88 + 1)
    else
      rec ((decide ((x31.getD x88 ByteArray.empty) = r79.1.Text))) (x88 + 1)
  else
    some x87
def volumegrouplaw13_CopiesHistory_l5 (x31 : List ByteArray) (r79 : api_Copy × Int × ArrS) : Nat → Bool → Nat → Option (Bool)
  | 0, _, _ => none
  | n + 1, x87, x88 => volumegrouplaw13_CopiesHistory_l5_b x31 r79 (volumegrouplaw13_CopiesHistory_l5 x31 r79 n) x87 x88
def volumegrouplaw13_CopiesHistory_l1_b (l : List volumegrouplaw13_Try) (rec : ArrS → Int → Nat → ByteArray → (List Int) → (List ByteArray) → Bool → Option ((ArrS) ⊕ Bool)) (x25 : ArrS) (x26 : Int) (x27 : Nat) (x28 : ByteArray) (x29 : List Int) (x31 : List ByteArray) (x33 : Bool) : Option ((ArrS) ⊕ Bool) :=
  if (((x27 : Nat) : Int) < ((l.length : Nat) : Int)) then
    lt (((((l.getD x27 (⟨0, 0, false, 0⟩ : volumegrouplaw13_Try))).Bits &&& (15 : UInt8))).toNat) fun w36 =>
    Option.bind (volumegrouplaw13_CopiesHistory_l2 x29 FUEL (((w36 : Nat) : Int)) 0) fun a41 =>
    Option.bind ((
      if ((a41 ≠ x26) ∨ ((l.getD x27 (⟨0, 0, false, 0⟩ : volumegrouplaw13_Try))).Settle = true) then
        some true
      else
        some x33 : Option (Bool))) fun a59 =>
    Option.bind (volumegrouplaw13_some x25 a41) fun r61 =>
    lt (((((l.getD x27 (⟨0, 0, false, 0⟩ : volumegrouplaw13_Try))).Fuse % (64 : UInt8))).toNat) fun w67 =>
    grd (inI64 (((w67 : Nat) : Int))) <|
    grd (decide (x27 < ([(ByteArray.mk #[97]), (ByteArray.mk #[98]), (ByteArray.mk #[99]), (ByteArray.mk #[100]), (ByteArray.mk #[101]), (ByteArray.mk #[102]), (ByteArray.mk #[103]), (ByteArray.mk #[104]), (ByteArray.mk #[105]), (ByteArray.mk #[107]), (ByteArray.mk #[108]), (ByteArray.mk #[109])]).length)) <|
    lt ((([(ByteArray.mk #[97]), (ByteArray.mk #[98]), (ByteArray.mk #[99]), (ByteArray.mk #[100]), (ByteArray.mk #[101]), (ByteArray.mk #[102]), (ByteArray.mk #[103]), (ByteArray.mk #[104]), (ByteArray.mk #[105]), (ByteArray.mk #[107]), (ByteArray.mk #[108]), (ByteArray.mk #[109])]).getD x27 ByteArray.empty)) fun w69 =>
    grd (inLen ((ByteArray.mk #[116, 101, 120, 116, 32]).size + w69.size)) <|
    seqO ((
      if a59 = true then
        Option.bind (copies_Settle r61 ({ x25 with fuse := (((w67 : Nat) : Int)).toNat })) fun r79 =>
        if (r79.2.1 = (0 : Int)) then
          Option.bind (volumegrouplaw13_CopiesHistory_l5 x31 r79 FUEL false 0) fun a86 =>
          if ((¬ a86 = true) ∨ (¬ r79.1.Valid = true)) then
            some (.inr (.inr false))
          else
            some (.inl (r79.1.Text, x31, r79.2.1, r79.2.2))
        else
          some (.inl (x28, x31, r79.2.1, r79.2.2))
      else
        Option.bind (copies_Scan r61 ({ x25 with fuse := (((w67 : Nat) : Int)).toNat })) fun r96 =>
        Option.bind (copies_Next r96.2.2) fun r101 =>
        if (r101.2 ≠ (0 : Int)) then
          some (.inr (.inr false))
        else
          Option.bind (copies_Commit r61 r101.1 (((ByteArray.mk #[116, 101, 120, 116, 32]) ++ w69)) ({ x25 with fuse := (((w67 : Nat) : Int)).toNat })) fun r103 =>
          grd (inLen (x31.length + 1)) <|
          if (r103.2.1 = (0 : Int)) then
            some (.inl (((ByteArray.mk #[116, 101, 120, 116, 32]) ++ w69), (x31 ++ [((ByteArray.mk #[116, 101, 120, 116, 32]) ++ w69)]), r103.2.1, r103.2.2))
          else
            some (.inl (x28, (x31 ++ [((ByteArray.mk #[116, 101, 120, 116, 32]) ++ w69)]), r103.2.1, r103.2.2)) : Option ((ByteArray × (List ByteArray) × Int × ArrS) ⊕ ((ArrS) ⊕ Bool)))) fun a78 =>
    grd (inI64 (0 : Int)) <|
    if (a78.2.2.1 = (0 : Int)) then
      rec ({ a78.2.2.2 with fuse := ((0 : Int)).toNat }) a41 (x27 + 1) a78.1 ([a41]) ([a78.1]) false
    else
      if (a78.2.2.1 ≠ (5 : Int)) then
        some (.inr false)
      else
        grd (inLen (x29.length + 1)) <|
        Option.bind (volumegroupmake_Keep (((l.getD x27 (⟨0, 0, false, 0⟩ : volumegrouplaw13_Try))).Keep)) fun r116 =>
        grd (inLen ({ a78.2.2.2 with fuse := ((0 : Int)).toNat }).writes) <|
        rec ((rsS ({ a78.2.2.2 with fuse := ((0 : Int)).toNat }) r116)) a41 (x27 + 1) a78.1 (x29 ++ [a41]) a78.2.1 true
  else
    some (.inl x25)
def volumegrouplaw13_CopiesHistory_l1 (l : List volumegrouplaw13_Try) : Nat → ArrS → Int → Nat → ByteArray → (List Int) → (List ByteArray) → Bool → Option ((ArrS) ⊕ Bool)
  | 0, _, _, _, _, _, _, _ => none
  | n + 1, x25, x26, x27, x28, x29, x31, x33 => volumegrouplaw13_CopiesHistory_l1_b l (volumegrouplaw13_CopiesHistory_l1 l n) x25 x26 x27 x28 x29 x31 x33
def volumegrouplaw13_CopiesHistory (l : List volumegrouplaw13_Try) : Option (Bool) :=
  if ((12 : Int) < ((l.length : Nat) : Int)) then
    Option.bind (volumegrouplaw13_awake) fun r2 =>
    some r2
  else
    Option.bind (volumegrouplaw13_areas (4 : Int) (40 : Int)) fun r4 =>
    Option.elim r4 (
      some false) fun o9 =>
    Option.bind (volumegrouplaw13_some o9 (15 : Int)) fun r10 =>
    Option.bind (copies_Commit r10 (1 : Int) (ByteArray.mk #[48]) o9) fun r16 =>
    if (r16.2.1 ≠ (0 : Int)) then
      some false
    else
      seqO (volumegrouplaw13_CopiesHistory_l1 l FUEL r16.2.2 (15 : Int) 0 (ByteArray.mk #[48]) ([(15 : Int)]) ([(ByteArray.mk #[48])]) false) fun a24 =>
      Option.bind (volumegrouplaw13_awake) fun r121 =>
      some r121
theorem L_volumegrouplaw13_CopiesHistory {W : World} {Al : HP} {vl : Value} {l : List volumegrouplaw13_Try} {r : Bool} (rl : Reads Al tyvolumegrouplaw13_Try vl l) (h : volumegrouplaw13_CopiesHistory l = some r) :
    CSpec Try.prog W 11 [vl] [Al] (fun x : Unit => .bool r) (fun _ => True) (fun x F => Al :: F) := by
 refine CSpec.of_body Try.func11 rfl Try.ntmps11 rfl fun F => ?_
 show CJ _ _ _ _ _ _ (_ :: F)
 unfold volumegrouplaw13_CopiesHistory at h
 refine CJ_pure (len_of rl del0) fun hlen1 => sR <| oA rfl rfl <| nT <| CJ_seq <| sR <| oM rfl rfl <| oV (V_len rfl foc0 rl Try.runUnderlying88) rfl <| oP (P_gtr (a := ((l.length : Nat) : Int)) (b := (12 : Int)) rfl rfl) rfl <| nT <| CJ_condP rfl bT_dec (fun hg1 => ?_) (fun hg1 => ?_)
 ·
  replace h := ite_t hg1 h
  refine sR ?_
  obtain ⟨r2, hr3, h⟩ := bind_e h
  refine oO <| O_call (L_volumegrouplaw13_awake hr3) rfl Try.call43 Dels.nil rfl fun _ _ => oA rfl rfl <| nT <| CJ_ret <| QJ_then_ret ?_
  cases h
  exact fE (res1 Try.results11 rfl) () eR
 ·
  replace h := ite_f hg1 h
  refine kT <| sR ?_
  obtain ⟨r4, hr5, h⟩ := bind_e h
  refine oO <| O_call (L_volumegrouplaw13_areas hr5) rfl Try.call44 Dels.nil rfl fun X6 _ => oA rfl rfl <| nT <| CJ_seq <| sR <| oM rfl rfl ?_
  rcases opt_e h with ⟨ht8, h⟩ | ⟨o9, ht8, h⟩
  ·
   rw [ht8]
   refine RJ_ent (t1_ (eD eR)) <| oP (P_eqlNN rfl rfl Try.underlying24) rfl <| nT <| CJ_condT rfl rfl <| sR <| oA rfl rfl <| nT <| CJ_ret <| QJ_then_ret ?_
   cases h
   exact fE (res1 Try.results11 rfl) () eR
  ·
   rw [ht8]
   refine RJ_ent (Ent.takeC (A' := Arr X6 o9) del0 rfl eR) <| oP (P_eqlPN rfl rfl Try.underlying24) rfl <| nT <| CJ_condF rfl rfl <| kT <| CJ_seq <| sR <| oM rfl rfl ?_
   obtain ⟨r10, hr11, h⟩ := bind_e h
   refine oO <| O_call (L_volumegrouplaw13_some hr11) rfl Try.call46 (Dels.cons del0 Dels.nil) rfl fun X12 _ => RJ_pure (fun h hh => Rs_len (stars_perm (del2 (A := Rs (DevP X6) r10 X12.2)).out h hh)) fun hdl15 => ?_
   obtain ⟨r16, hr17, h⟩ := bind_e h
   refine oO <| O_call (L_copies_Commit (Reads.sl _ _ _) hr17) rfl Try.call45 (Dels.cons del1 (Dels.cons del1 (Dels.cons del0 Dels.nil))) rfl fun _ _ => oM rfl rfl <| oP (P_extract rfl rfl) rfl <| oP (P_extract rfl rfl) rfl <| oA rfl rfl <| oA rfl rfl <| nT <| sR <| oM rfl rfl <| oP (P_neq (a := r16.2.1) (b := (0 : Int)) rfl rfl) rfl <| nT <| CJ_condP rfl bT_dec (fun hg2 => ?_) (fun hg2 => ?_)
   ·
    replace h := ite_t hg2 h
    refine sR <| oA rfl rfl <| nT <| CJ_ret <| QJ_then_ret ?_
    cases h
    exact fE (res1 Try.results11 rfl) () (t3_ (eD (eD (eD eR))))
   ·
    replace h := ite_f hg2 h
    refine kT <| sR <| oA rfl rfl <| nT <| sR <| oO <| O_buildSlice rfl (bs_38_1_0 _) rfl fun b18 => RJ_ent (Ent.trans (t0_ eR) (sl_of_lit (t := tyI) (m := 1) [(15 : Int)] rfl rfl rfl (by decide))) <| oA rfl rfl <| nT <| sR <| oO <| O_buildSlice rfl (bs_43_1_0 _) rfl fun b19 => RJ_ent (Ent.trans (t0_ eR) (sl_of_lit (t := tyS) (m := 1) [(ByteArray.mk #[48])] rfl rfl rfl (by decide))) <| oA rfl rfl <| nT <| sR <| oA rfl rfl <| nT <| sR <| oA rfl rfl <| nT <| CJ_seq <| sR <| oA rfl rfl <| nT ?_
    obtain ⟨y22, hl20, hK21⟩ := seq_e h
    refine CJ_cutT (X := ArrS) [2, 6, 7, 8, 9, 10, 11, 12, 13, 14, 15, 16, 17, 18, 19, 20, 21, 22, 23, 24, 25, 43, 44, 45, 46, 47, 48, 49, 50, 51, 52, 53, 54, 55, 56, 57, 58, 59, 60, 61, 62, 63, 64, 65, 66, 67, 68, 69, 70, 71, 72, 73, 74, 75, 76, 77, 78, 79, 80, 81, 82, 83, 84, 85, 86, 87, 88, 89, 90, 91, 92, 93, 94, 95, 96, 97, 98, 99, 100, 101, 102, 103, 104, 105, 106, 107, 108, 109, 110, 111, 112, 113, 114, 115, 116, 117, 118, 119, 120, 121, 122, 123, 124, 125, 126, 127, 128, 129, 130, 131, 132, 133, 134, 135, 136, 137, 138, 139, 140, 141, 142, 143, 144, 145, 146, 147, 148, 149, 150, 151, 152, 153, 154, 155, 156, 157, 158, 159, 160, 161, 162, 163, 164, 165, 166, 167, 168, 169, 170, 171, 172, 173, 174, 175, 176, 177, 178, 179, 180, 181, 182, 183, 184, 185, 186, 187, 188, 189, 190, 191] (fun a24 => ([] : Slots)) (fun a24 R => Arr X6 a24 :: R) (fun a24 => y22 = .inl a24) (Dels.cons del4 (Dels.cons del0 (Dels.cons del0 (Dels.cons del0 (Dels.cons del0 Dels.nil))))) ?_ ?_
    ·
     refine CJ_block ?_
     refine CJ_loopR (X := Nat × ArrS × Int × Nat × ByteArray × (List Int) × (List ByteArray) × Bool × Sl3 × Sl3) [2, 6, 7, 8, 9, 10, 11, 12, 13, 14, 15, 16, 17, 18, 19, 20, 21, 22, 23, 24, 25, 43, 44, 45, 46, 47, 48, 49, 50, 51, 52, 53, 54, 55, 56, 57, 58, 59, 60, 61, 62, 63, 64, 65, 66, 67, 68, 69, 70, 71, 72, 73, 74, 75, 76, 77, 78, 79, 80, 81, 82, 83, 84, 85, 86, 87, 88, 89, 90, 91, 92, 93, 94, 95, 96, 97, 98, 99, 100, 101, 102, 103, 104, 105, 106, 107, 108, 109, 110, 111, 112, 113, 114, 115, 116, 117, 118, 119, 120, 121, 122, 123, 124, 125, 126, 127, 128, 129, 130, 131, 132, 133, 134, 135, 136, 137, 138, 139, 140, 141, 142, 143, 144, 145, 146, 147, 148, 149, 150, 151, 152, 153, 154, 155, 156, 157, 158, 159, 160, 161, 162, 163, 164, 165, 166, 167, 168, 169, 170, 171, 172, 173, 174, 175, 176, 177, 178, 179, 180, 181, 182, 183, 184, 185, 186, 187, 188, 189, 190, 191] (fun ⟨n, x25, x26, x27, x28, x29, x31, x33, hd30, hd32⟩ => ([(6, .string x28), (7, hd30.v), (8, hd32.v), (9, .bool x33), (10, .int .i64 x26), (11, .int .i64 (((x27 : Nat) : Int)))] : Slots)) (fun ⟨n, x25, x26, x27, x28, x29, x31, x33, hd30, hd32⟩ R => Arr X6 x25 :: sl tyI hd30.v x29 :: sl tyS hd32.v x31 :: R) (fun ⟨n, x25, x26, x27, x28, x29, x31, x33, hd30, hd32⟩ => volumegrouplaw13_CopiesHistory_l1 l n x25 x26 x27 x28 x29 x31 x33 = some y22) (fun ⟨n, x25, x26, x27, x28, x29, x31, x33, hd30, hd32⟩ => n) ⟨FUEL, r16.2.2, (15 : Int), 0, (ByteArray.mk #[48]), [(15 : Int)], [(ByteArray.mk #[48])], false, ⟨some ⟨b18, 0, none⟩, 1, 1⟩, ⟨some ⟨b19, 0, none⟩, 1, 1⟩⟩ ?_ ?_ (t4_ (t1_ (t0_ (t2_ (eD (eD eR)))))) ?_
     · exact hl20
     · exact ⟨rfl, rfl, rfl, rfl, rfl, rfl, True.intro⟩
     ·
      rintro ⟨n, x25, x26, x27, x28, x29, x31, x33, hd30, hd32⟩ h
      cases n with
      | zero => exact none_e h
      | succ n => ?_
      replace h : volumegrouplaw13_CopiesHistory_l1_b l (volumegrouplaw13_CopiesHistory_l1 l n) x25 x26 x27 x28 x29 x31 x33 = some y22 := h
      unfold volumegrouplaw13_CopiesHistory_l1_b at h
      show CJ _ _ _ _ _ (([(6, .string x28), (7, hd30.v), (8, hd32.v), (9, .bool x33), (10, .int .i64 x26), (11, .int .i64 (((x27 : Nat) : Int)))] : Slots) ++ forget _ _) (Arr X6 x25 :: sl tyI hd30.v x29 :: sl tyS hd32.v x31 :: _)
      refine lC del1 fun hlen34 => lC del2 fun hlen35 => CJ_seq <| sR <| oM rfl rfl <| oM rfl rfl <| oV (V_len rfl foc3 rl Try.runUnderlying88) rfl <| oP (P_lss (a := ((x27 : Nat) : Int)) (b := ((l.length : Nat) : Int)) rfl rfl) rfl <| nT <| CJ_condP rfl bT_dec (fun hg3 => ?_) (fun hg3 => ?_)
      ·
       replace h := ite_t hg3 h
       refine kT <| CJ_seq <| CJ_block <| sR <| oM rfl rfl <| oM rfl rfl <| oV (V_index (i := x27) rfl rfl rfl (by omega) foc3 rl Try.runUnderlying88 Try.sizeOf90) rfl <| oP (P_fieldE rfl ⟨_, _, _, Try.runUnderlying90, rfl, rfl, Try.sizeOf5, rfl⟩) rfl <| oV (V_loadE rfl rfl (by omega) foc3 rl rfl rfl Try.isAgg5) rfl <| oP (P_and_u8 (a := ((l.getD x27 (⟨0, 0, false, 0⟩ : volumegrouplaw13_Try))).Bits) (b := (15 : UInt8)) rfl rfl) rfl <| oP (P_convSame rfl Try.runUnderlying5 Try.runUnderlying3 (wrap64_u _ (by have h9 := ((((l.getD x27 (⟨0, 0, false, 0⟩ : volumegrouplaw13_Try))).Bits &&& (15 : UInt8))).toNat_lt; exact (by omega : ((((l.getD x27 (⟨0, 0, false, 0⟩ : volumegrouplaw13_Try))).Bits &&& (15 : UInt8))).toNat < 9223372036854775808)))) rfl ?_
       obtain ⟨w36, hw36, h⟩ := lt_e h
       rw [← hw36]
       refine oA rfl rfl <| nT <| CJ_seq <| sR <| oA rfl rfl <| nT ?_
       obtain ⟨y39, hl37, hK38⟩ := bind_c h
       refine CJ_cutT (X := Int) [12, 13, 56, 57, 58, 59, 60, 61, 62, 63, 64, 65, 66, 67, 68, 69, 70, 71, 72, 73, 74, 75, 76, 77, 78, 79, 80] (fun a41 => ([(12, .int .i64 a41)] : Slots)) (fun a41 R => R) (fun a41 => y39 = a41) Dels.nil ?_ ?_
       ·
        refine CJ_block <| CJ_loopR (X := Nat × Int × Nat) [12, 13, 56, 57, 58, 59, 60, 61, 62, 63, 64, 65, 66, 67, 68, 69, 70, 71, 72, 73, 74, 75, 76, 77, 78, 79, 80] (fun ⟨n, x42, x43⟩ => ([(12, .int .i64 x42), (13, .int .i64 (((x43 : Nat) : Int)))] : Slots)) (fun ⟨n, x42, x43⟩ R => R) (fun ⟨n, x42, x43⟩ => volumegrouplaw13_CopiesHistory_l2 x29 n x42 x43 = some y39) (fun ⟨n, x42, x43⟩ => n) ⟨FUEL, ((w36 : Nat) : Int), 0⟩ ?_ ?_ eR ?_
        · exact hl37
        · exact ⟨rfl, rfl, True.intro⟩
        ·
         rintro ⟨n, x42, x43⟩ h
         cases n with
         | zero => exact none_e h
         | succ n => ?_
         replace h : volumegrouplaw13_CopiesHistory_l2_b x29 (volumegrouplaw13_CopiesHistory_l2 x29 n) x42 x43 = some y39 := h
         unfold volumegrouplaw13_CopiesHistory_l2_b at h
         show CJ _ _ _ _ _ (([(12, .int .i64 x42), (13, .int .i64 (((x43 : Nat) : Int)))] : Slots) ++ forget _ _) (_)
         refine CJ_seq <| sR <| oM rfl rfl <| oM rfl rfl <| oV (V_len rfl foc1 (Reads.sl _ _ _) Try.runUnderlying38) rfl <| oP (P_lss (a := ((x43 : Nat) : Int)) (b := ((x29.length : Nat) : Int)) rfl rfl) rfl <| nT <| CJ_condP rfl bT_dec (fun hg4 => ?_) (fun hg4 => ?_)
         ·
          replace h := ite_t hg4 h
          refine kT <| CJ_seq <| CJ_block <| sR <| oM rfl rfl <| oM rfl rfl <| oM rfl rfl <| oV (V_index (i := x43) rfl rfl rfl (by omega) foc1 (Reads.sl _ _ _) Try.runUnderlying38 Try.sizeOf3) rfl <| oV (V_loadE rfl rfl (by omega) foc1 (Reads.sl _ _ _) rfl rfl Try.isAgg3) rfl <| oP (P_andW (a := x42) (m := (x29.getD x43 0)) rfl rfl) rfl <| oP (P_eql (a := (andW x42 (x29.getD x43 0))) (b := (0 : Int)) rfl rfl) rfl <| nT <| CJ_condP rfl bT_dec (fun hg5 => ?_) (fun hg5 => ?_)
          ·
           replace h := ite_t hg5 h
           refine AJ_startH 0 (by kernel_rfl) rfl <| aN 0 1 rfl rfl (P_move rfl) rfl <| aN 1 3 rfl rfl (P_move rfl) rfl <| aN 2 7 rfl rfl (P_move rfl) rfl <| aV 3 15 rfl rfl (GY_none rfl) eR (V_index (i := x43) rfl rfl rfl (by omega) foc1 (Reads.sl _ _ _) Try.runUnderlying38 Try.sizeOf3) rfl <| aV 4 31 rfl rfl (GY_none rfl) eR (V_loadE rfl rfl (by omega) foc1 (Reads.sl _ _ _) rfl rfl Try.isAgg3) rfl <| aN 5 63 rfl rfl (P_move rfl) rfl <| aN 6 127 rfl rfl (P_move rfl) rfl <| aV 7 255 rfl rfl (GY_none rfl) eR (V_index (i := x43) rfl rfl rfl (by omega) foc1 (Reads.sl _ _ _) Try.runUnderlying38 Try.sizeOf3) rfl <| aV 8 511 rfl rfl (GY_none rfl) eR (V_loadE rfl rfl (by omega) foc1 (Reads.sl _ _ _) rfl rfl Try.isAgg3) rfl ?_
           obtain ⟨hg6, h⟩ := grd_Ie h
           exact aN 9 1023 rfl rfl (P_neg rfl hg6) rfl <| aN 10 2047 rfl rfl (P_andW (a := (x29.getD x43 0)) (m := (0 - (x29.getD x43 0))) rfl rfl) rfl <| aN 11 4095 rfl rfl (P_orW (a := x42) (m := (andW (x29.getD x43 0) ((0 - (x29.getD x43 0))))) rfl rfl) rfl <| aN 12 8191 rfl rfl (P_assign rfl) rfl <| AJ_done (by kernel_rfl) <| QJ_block_normal <| QJ_then <| CJ_region <| oM rfl rfl <| oP (PJ_eq (P_add (a := ((x43 : Nat) : Int)) (b := (1 : Int)) rfl rfl (by omega)) rfl) rfl <| oA rfl rfl <| RJ_nil <| nR ⟨n, (orW x42 ((andW (x29.getD x43 0) ((0 - (x29.getD x43 0)))))), (x43 + 1)⟩ h ⟨rfl, rfl, True.intro⟩ eR
          ·
           replace h := ite_f hg5 h
           exact CJ_skip <| QJ_block_normal <| QJ_then <| CJ_region <| oM rfl rfl <| oP (PJ_eq (P_add (a := ((x43 : Nat) : Int)) (b := (1 : Int)) rfl rfl (by omega)) rfl) rfl <| oA rfl rfl <| RJ_nil <| nR ⟨n, x42, (x43 + 1)⟩ h ⟨rfl, rfl, True.intro⟩ eR
         ·
          replace h := ite_f hg4 h
          exact CJ_exit <| QJ_then_exit <| QJ_round_exit <| QJ_block_here <| cR x42 (Option.some.inj h).symm ⟨rfl, True.intro⟩ eR
       ·
        rintro a41 hy44
        replace h := bindK_at hK38 hy44
        show CJ _ _ _ _ _ (([(12, .int .i64 a41)] : Slots) ++ forget _ _) (_)
        refine CJ_seq <| sR <| oM rfl rfl <| oM rfl rfl <| oP (P_neq (a := a41) (b := x26) rfl rfl) rfl <| oM rfl rfl <| RJ_mbF rfl rfl rfl (fun hG45 => have hP46 : ¬ (a41 ≠ x26) := nP (bT_dec) hG45; VJ_P (P_move rfl)) <| RJ_mbF rfl rfl rfl (fun hG47 => have hP48 : ¬ (a41 ≠ x26) := nP (bT_dec) hG47; VJ_P (P_move rfl)) <| RJ_mbF rfl rfl rfl (fun hG49 => have hP50 : ¬ (a41 ≠ x26) := nP (bT_dec) hG49; V_index (i := x27) (mbx hG49 rfl) (mbx hG49 rfl) rfl (by omega) foc3 rl Try.runUnderlying88 Try.sizeOf90) <| RJ_mbF rfl rfl rfl (fun hG51 => have hP52 : ¬ (a41 ≠ x26) := nP (bT_dec) hG51; VJ_P (P_fieldE (mbx hG51 rfl) ⟨_, _, _, Try.runUnderlying90, rfl, rfl, Try.sizeOf4, rfl⟩)) <| RJ_mbF rfl rfl rfl (fun hG53 => have hP54 : ¬ (a41 ≠ x26) := nP (bT_dec) hG53; V_loadE (mbx hG53 rfl) rfl (by omega) foc3 rl rfl rfl Try.isAgg4) <| oP (P_pickOr rfl rfl (fun hh => mbx (not_f hh) rfl)) rfl <| nT ?_
        obtain ⟨y57, hl55, hK56⟩ := bind_c h
        refine CJ_cutT (X := Bool) [9] (fun a59 => ([(9, .bool a59)] : Slots)) (fun a59 R => R) (fun a59 => y57 = a59) Dels.nil ?_ ?_
        ·
         have h := hl55
         refine CJ_condP rfl (bT_or bT_dec Iff.rfl) (fun hg7 => ?_) (fun hg7 => ?_)
         ·
          replace h := ite_t hg7 h
          exact CJ_region <| oA rfl rfl <| RJ_nil <| cR true (Option.some.inj h).symm ⟨rfl, True.intro⟩ eR
         ·
          replace h := ite_f hg7 h
          exact CJ_skip <| cR x33 (Option.some.inj h).symm ⟨rfl, True.intro⟩ eR
        ·
         rintro a59 hy60
         replace h := bindK_at hK56 hy60
         show CJ _ _ _ _ _ (([(9, .bool a59)] : Slots) ++ forget _ _) (_)
         refine sR <| oM rfl rfl <| oA rfl rfl <| nT <| sR <| oM rfl rfl <| oM rfl rfl ?_
         obtain ⟨r61, hr62, h⟩ := bind_e h
         refine oO <| O_call (L_volumegrouplaw13_some hr62) rfl Try.call46 (Dels.cons del0 Dels.nil) rfl fun X63 _ => RJ_pure (fun h hh => Rs_len (stars_perm (del2 (A := Rs (DevP X6) r61 X63.2)).out h hh)) fun hdl66 => oA rfl rfl <| nT <| sR <| oM rfl rfl <| oM rfl rfl <| oM rfl rfl <| oV (V_index (i := x27) rfl rfl rfl (by omega) foc5 rl Try.runUnderlying88 Try.sizeOf90) rfl <| oP (P_fieldE rfl ⟨_, _, _, Try.runUnderlying90, rfl, rfl, Try.sizeOf5, rfl⟩) rfl <| oV (V_loadE rfl rfl (by omega) foc5 rl rfl rfl Try.isAgg5) rfl <| oP (P_rem_u8 (a := ((l.getD x27 (⟨0, 0, false, 0⟩ : volumegrouplaw13_Try))).Fuse) (b := (64 : UInt8)) rfl rfl (by decide)) rfl <| oP (P_convSame rfl Try.runUnderlying5 Try.runUnderlying3 (wrap64_u _ (by have h9 := ((((l.getD x27 (⟨0, 0, false, 0⟩ : volumegrouplaw13_Try))).Fuse % (64 : UInt8))).toNat_lt; exact (by omega : ((((l.getD x27 (⟨0, 0, false, 0⟩ : volumegrouplaw13_Try))).Fuse % (64 : UInt8))).toNat < 9223372036854775808)))) rfl ?_
         obtain ⟨w67, hw67, h⟩ := lt_e h
         rw [← hw67]
         obtain ⟨hg8, h⟩ := grd_Ie h
         refine oO <| O_call (c_FuseD hg8.2) rfl Try.call21 (Dels.cons del0 Dels.nil) rfl fun _ _ => nT <| sR <| oA rfl rfl <| nT <| sR <| oO <| O_buildSlice rfl (bs_43_12_0_1_2_3_4_5_6_7_8_9_10_11 _ _ _ _ _ _ _ _ _ _ _ _) rfl fun b68 => RJ_ent (Ent.trans (t0_ eR) (sl_of_lit (t := tyS) (m := 12) [(ByteArray.mk #[97]), (ByteArray.mk #[98]), (ByteArray.mk #[99]), (ByteArray.mk #[100]), (ByteArray.mk #[101]), (ByteArray.mk #[102]), (ByteArray.mk #[103]), (ByteArray.mk #[104]), (ByteArray.mk #[105]), (ByteArray.mk #[107]), (ByteArray.mk #[108]), (ByteArray.mk #[109])] rfl rfl rfl (by decide))) <| oM rfl rfl ?_
         obtain ⟨hg9, h⟩ := grd_de h
         refine oV (V_index (i := x27) rfl rfl rfl hg9 foc0 (Reads.sl _ _ _) Try.runUnderlying43 Try.sizeOf9) rfl <| oV (V_loadE rfl rfl hg9 foc0 (Reads.sl _ _ _) rfl rfl Try.isAgg9) rfl ?_
         obtain ⟨w69, hw69, h⟩ := lt_e h
         rw [← hw69]
         obtain ⟨hg10, h⟩ := grd_Le h
         refine oP (P_addStr (a := (ByteArray.mk #[116, 101, 120, 116, 32])) (b := w69) rfl rfl hg10) rfl <| oA rfl rfl <| RJ_nil <| QJ_ent (t1_ (t1_ (t1_ (t1_ (t1_ (t1_ (eD eR))))))) <| QJ_then <| CJ_seq <| sR <| oM rfl rfl <| nT ?_
         obtain ⟨y72, hl70, hK71⟩ := seq_e h
         refine CJ_cutT (X := (ByteArray × (List ByteArray) × Int × ArrS) × Sl3) [2, 6, 8, 15, 17, 18, 19, 20, 21, 22, 23, 24, 25, 110, 111, 112, 113, 114, 115, 116, 117, 118, 119, 120, 121, 122, 123, 124, 125, 126, 127, 128, 129, 130, 131, 132, 133, 134, 135, 136, 137, 138, 139, 140, 141, 142, 143, 144, 145, 146, 147, 148, 149, 150, 151, 152, 153, 154, 155, 156, 157, 158, 159, 160, 161, 162, 163, 164, 165, 166, 167, 168, 169] (fun ⟨a78, hd75⟩ => ([(6, .string a78.1), (8, hd75.v), (15, .int .i64 a78.2.2.1)] : Slots)) (fun ⟨a78, hd75⟩ R => sl tyS hd75.v a78.2.1 :: Arr X6 a78.2.2.2 :: R) (fun ⟨a78, hd75⟩ => y72 = .inl a78) (Dels.cons del4 (Dels.cons del0 (Dels.cons del0 (Dels.cons del0 Dels.nil)))) ?_ ?_
         ·
          have h := hl70
          refine CJ_condP rfl Iff.rfl (fun hg11 => ?_) (fun hg11 => ?_)
          ·
           replace h := ite_t hg11 h
           refine sR <| oM rfl rfl ?_
           obtain ⟨r79, hr80, h⟩ := bind_e h
           refine oO <| O_call (L_copies_Settle (Reads.sl _ _ _) hr80) rfl Try.call52 (Dels.cons del1 (Dels.cons del1 (Dels.cons del0 Dels.nil))) rfl fun _ _ => oM rfl rfl <| oP (P_extract rfl rfl) rfl <| oP (P_extract rfl rfl) rfl <| oO <| O_alloc Try.zeroValue34 rfl rfl fun b81 => oO <| O_storeN rfl rfl foc0 Try.sizeOf34 rfl rfl rfl <| oA rfl rfl <| RJ_nil <| QJ_ent (t0_ (t2_ (t2_ (t2_ (t2_ (eD (eD eR))))))) <| QJ_then <| sR <| oM rfl rfl <| oA rfl rfl <| nT <| sR <| oM rfl rfl <| oP (P_eql (a := r79.2.1) (b := (0 : Int)) rfl rfl) rfl <| nT <| CJ_condP rfl bT_dec (fun hg12 => ?_) (fun hg12 => ?_)
           ·
            replace h := ite_t hg12 h
            refine sR <| oA rfl rfl <| nT <| CJ_seq <| sR <| oA rfl rfl <| nT ?_
            obtain ⟨y84, hl82, hK83⟩ := bind_c h
            refine CJ_cutT (X := Bool) [19, 20, 118, 119, 120, 121, 122, 123, 124, 125, 126, 127, 128, 129, 130, 131, 132, 133] (fun a86 => ([(19, .bool a86)] : Slots)) (fun a86 R => R) (fun a86 => y84 = a86) Dels.nil ?_ ?_
            ·
             refine CJ_block <| CJ_loopR (X := Nat × Bool × Nat) [19, 20, 118, 119, 120, 121, 122, 123, 124, 125, 126, 127, 128, 129, 130, 131, 132, 133] (fun ⟨n, x87, x88⟩ => ([(19, .bool x87), (20, .int .i64 (((x88 : Nat) : Int)))] : Slots)) (fun ⟨n, x87, x88⟩ R => R) (fun ⟨n, x87, x88⟩ => volumegrouplaw13_CopiesHistory_l5 x31 r79 n x87 x88 = some y84) (fun ⟨n, x87, x88⟩ => n) ⟨FUEL, false, 0⟩ ?_ ?_ eR ?_
             · exact hl82
             · exact ⟨rfl, rfl, True.intro⟩
             ·
              rintro ⟨n, x87, x88⟩ h
              cases n with
              | zero => exact none_e h
              | succ n => ?_
              replace h : volumegrouplaw13_CopiesHistory_l5_b x31 r79 (volumegrouplaw13_CopiesHistory_l5 x31 r79 n) x87 x88 = some y84 := h
              unfold volumegrouplaw13_CopiesHistory_l5_b at h
              show CJ _ _ _ _ _ (([(19, .bool x87), (20, .int .i64 (((x88 : Nat) : Int)))] : Slots) ++ forget _ _) (_)
              refine CJ_seq <| sR <| oM rfl rfl <| oM rfl rfl <| oV (V_len rfl foc3 (Reads.sl _ _ _) Try.runUnderlying43) rfl <| oP (P_lss (a := ((x88 : Nat) : Int)) (b := ((x31.length : Nat) : Int)) rfl rfl) rfl <| nT <| CJ_condP rfl bT_dec (fun hg13 => ?_) (fun hg13 => ?_)
              ·
               replace h := ite_t hg13 h
               refine kT <| CJ_seq <| CJ_block <| AJ_startH 0 (by kernel_rfl) rfl <| aN 0 1 rfl rfl (P_move rfl) rfl <| aN 1 3 rfl rfl (P_move rfl) rfl <| AJ_splitP 125 rfl Iff.rfl (fun hg14B hg14 => ?_) (fun hg14B hg14 => ?_)
               ·
                replace h := ite_t hg14 h
                exact aS 2 7 rfl rfl (GY_no rfl rfl rfl hg14B) rfl <| aS 3 15 rfl rfl (GY_no rfl rfl rfl hg14B) rfl <| aS 4 31 rfl rfl (GY_no rfl rfl rfl hg14B) rfl <| aS 5 63 rfl rfl (GY_no rfl rfl rfl hg14B) rfl <| aS 6 127 rfl rfl (GY_no rfl rfl rfl hg14B) rfl <| aS 7 255 rfl rfl (GY_no rfl rfl rfl hg14B) rfl <| aS 8 511 rfl rfl (GY_no rfl rfl rfl hg14B) rfl <| aN 9 1023 rfl rfl (P_pickT rfl hg14B rfl) rfl <| aN 10 2047 rfl rfl (P_assign rfl) rfl <| AJ_done (by kernel_rfl) <| QJ_block_normal <| QJ_then <| CJ_region <| oM rfl rfl <| oP (PJ_eq (P_add (a := ((x88 : Nat) : Int)) (b := (1 : Int)) rfl rfl (by omega)) rfl) rfl <| oA rfl rfl <| RJ_nil <| nR ⟨n, true, (x88 + 1)⟩ h ⟨rfl, rfl, True.intro⟩ eR
               ·
                replace h := ite_f hg14 h
                exact aP 2 7 rfl rfl (GY_yes rfl rfl rfl hg14B) (P_move rfl) rfl <| aP 3 15 rfl rfl (GY_yes rfl rfl rfl hg14B) (P_move rfl) rfl <| aV 4 31 rfl rfl (GY_yes rfl rfl rfl hg14B) eR (V_index (i := x88) rfl rfl rfl (by omega) foc3 (Reads.sl _ _ _) Try.runUnderlying43 Try.sizeOf9) rfl <| aV 5 63 rfl rfl (GY_yes rfl rfl rfl hg14B) eR (V_loadE rfl rfl (by omega) foc3 (Reads.sl _ _ _) rfl rfl Try.isAgg9) rfl <| aP 6 127 rfl rfl (GY_yes rfl rfl rfl hg14B) (P_fieldAddr rfl ⟨_, _, _, Try.runUnderlying34, rfl, rfl, Try.sizeOf9, rfl⟩) rfl <| aV 7 255 rfl rfl (GY_yes rfl rfl rfl hg14B) eR (V_load rfl foc0 rfl Try.isAgg9) rfl <| aP 8 511 rfl rfl (GY_yes rfl rfl rfl hg14B) (P_eqlStr (a := (x31.getD x88 ByteArray.empty)) (b := r79.1.Text) rfl rfl Try.underlying9) rfl <| aN 9 1023 rfl rfl (P_pickF rfl hg14B rfl) rfl <| aN 10 2047 rfl rfl (P_assign rfl) rfl <| AJ_done (by kernel_rfl) <| QJ_block_normal <| QJ_then <| CJ_region <| oM rfl rfl <| oP (PJ_eq (P_add (a := ((x88 : Nat) : Int)) (b := (1 : Int)) rfl rfl (by omega)) rfl) rfl <| oA rfl rfl <| RJ_nil <| nR ⟨n, (decide ((x31.getD x88 ByteArray.empty) = r79.1.Text)), (x88 + 1)⟩ h ⟨rfl, rfl, True.intro⟩ eR
              ·
               replace h := ite_f hg13 h
               exact CJ_exit <| QJ_then_exit <| QJ_round_exit <| QJ_block_here <| cR x87 (Option.some.inj h).symm ⟨rfl, True.intro⟩ eR
            ·
             rintro a86 hy89
             replace h := bindK_at hK83 hy89
             show CJ _ _ _ _ _ (([(19, .bool a86)] : Slots) ++ forget _ _) (_)
             refine CJ_seq <| sR <| oM rfl rfl <| oP (P_not rfl) rfl <| oM rfl rfl <| RJ_mbF rfl rfl rfl (fun hG90 => have hP91 : ¬ (¬ a86 = true) := nP ((bT_not Iff.rfl)) hG90; VJ_P (P_fieldAddr rfl ⟨_, _, _, Try.runUnderlying34, rfl, rfl, Try.sizeOf4, rfl⟩)) <| RJ_mbF rfl rfl rfl (fun hG92 => have hP93 : ¬ (¬ a86 = true) := nP ((bT_not Iff.rfl)) hG92; V_load (mbx hG92 rfl) foc0 rfl Try.isAgg4) <| RJ_mbF rfl rfl rfl (fun hG94 => have hP95 : ¬ (¬ a86 = true) := nP ((bT_not Iff.rfl)) hG94; VJ_P (P_not (mbx hG94 rfl))) <| oP (P_pickOr rfl rfl (fun hh => mbx (not_f hh) rfl)) rfl <| nT <| CJ_condP rfl (bT_or (bT_not Iff.rfl) (bT_not Iff.rfl)) (fun hg15 => ?_) (fun hg15 => ?_)
             ·
              replace h := ite_t hg15 h
              refine sR <| oA rfl rfl <| nT <| CJ_ret <| QJ_then_ret <| QJ_then_ret <| QJ_block_ret <| QJ_then_ret <| QJ_round_ret <| QJ_block_ret <| QJ_then_ret ?_
              have hE := Option.some.inj h
              replace hE := seq_inr hK71 hE.symm
              replace hE := seq_inr hK21 hE.symm
              subst hE
              exact fE (res1 Try.results11 rfl) () (t4_ (eD (eD (eD (eD eR)))))
             ·
              replace h := ite_f hg15 h
              exact kT <| CJ_region <| oP (P_fieldAddr rfl ⟨_, _, _, Try.runUnderlying34, rfl, rfl, Try.sizeOf9, rfl⟩) rfl <| oV (V_load rfl foc0 rfl Try.isAgg9) rfl <| oA rfl rfl <| RJ_nil <| cR ⟨(r79.1.Text, x31, r79.2.1, r79.2.2), hd32⟩ (Option.some.inj h).symm ⟨rfl, rfl, rfl, True.intro⟩ (t3_ (t1_ (t1_ (t1_ (eD eR)))))
           ·
            replace h := ite_f hg12 h
            exact CJ_skip <| cR ⟨(x28, x31, r79.2.1, r79.2.2), hd32⟩ (Option.some.inj h).symm ⟨rfl, rfl, rfl, True.intro⟩ (t3_ (t1_ (t1_ (t1_ (eD eR)))))
          ·
           replace h := ite_f hg11 h
           refine sR <| oM rfl rfl ?_
           obtain ⟨r96, hr97, h⟩ := bind_e h
           refine oO <| O_call (L_copies_Scan (Reads.sl _ _ _) hr97) rfl Try.call41 (Dels.cons del1 (Dels.cons del1 (Dels.cons del0 Dels.nil))) rfl fun X98 _ => oM rfl rfl <| oP (P_extract (v := X98.1.v) rfl rfl) rfl <| oP (P_extract (v := X98.2.v) rfl rfl) rfl <| oP (P_extract rfl rfl) rfl <| oA rfl rfl <| oA rfl rfl <| oA rfl rfl <| RJ_nil <| QJ_ent (t0_ (t0_ (t0_ (t2_ (t2_ (t2_ (eD (eD eR)))))))) <| QJ_then <| sR <| oM rfl rfl ?_
           obtain ⟨r101, hr102, h⟩ := bind_e h
           refine oO <| O_call (L_copies_Next hr102) rfl Try.call50 Dels.nil rfl fun _ _ => oM rfl rfl <| oP (P_extract rfl rfl) rfl <| oP (P_extract rfl rfl) rfl <| oA rfl rfl <| oA rfl rfl <| nT <| CJ_seq <| sR <| oM rfl rfl <| oP (P_neq (a := r101.2) (b := (0 : Int)) rfl rfl) rfl <| nT <| CJ_condP rfl bT_dec (fun hg16 => ?_) (fun hg16 => ?_)
           ·
            replace h := ite_t hg16 h
            refine sR <| oA rfl rfl <| nT <| CJ_ret <| QJ_then_ret <| QJ_then_ret <| QJ_block_ret <| QJ_then_ret <| QJ_round_ret <| QJ_block_ret <| QJ_then_ret ?_
            have hE := Option.some.inj h
            replace hE := seq_inr hK71 hE.symm
            replace hE := seq_inr hK21 hE.symm
            subst hE
            exact fE (res1 Try.results11 rfl) () (t5_ (eD (eD (eD (eD (eD eR))))))
           ·
            replace h := ite_f hg16 h
            refine kT <| sR <| oM rfl rfl <| oM rfl rfl <| oM rfl rfl ?_
            obtain ⟨r103, hr104, h⟩ := bind_e h
            refine oO <| O_call (L_copies_Commit (Reads.sl _ _ _) hr104) rfl Try.call45 (Dels.cons del0 (Dels.cons del0 (Dels.cons del0 Dels.nil))) rfl fun _ _ => oM rfl rfl <| oP (P_extract rfl rfl) rfl <| oP (P_extract rfl rfl) rfl <| oA rfl rfl <| nT <| sR <| oM rfl rfl <| oM rfl rfl <| oO <| O_buildSlice rfl (bs_43_1_0 _) rfl fun b105 => ?_
            obtain ⟨hg17, h⟩ := grd_Le h
            refine oO <| O_append (t := tyS) (bytes := 16) rfl rfl del5 foc0 (Reads.lit (t := tyS) (ys := [((ByteArray.mk #[116, 101, 120, 116, 32]) ++ w69)]) rfl rfl (by decide) (by decide) rfl) Try.underlying43 ok_tyS (apl (m := 1) (b := 16) hg17 (by decide)).1 (apl (m := 1) (b := 16) hg17 (by decide)).2 rfl fun p107 c108 => oA rfl rfl <| RJ_nil <| QJ_ent (t0_ (t3_ (t3_ (t3_ (eD (eD (eD eR))))))) <| QJ_then <| sR <| oM rfl rfl <| oP (P_eql (a := r103.2.1) (b := (0 : Int)) rfl rfl) rfl <| nT <| CJ_condP rfl bT_dec (fun hg18 => ?_) (fun hg18 => ?_)
            ·
             replace h := ite_t hg18 h
             exact CJ_region <| oM rfl rfl <| oA rfl rfl <| RJ_nil <| cR ⟨(((ByteArray.mk #[116, 101, 120, 116, 32]) ++ w69), (x31 ++ [((ByteArray.mk #[116, 101, 120, 116, 32]) ++ w69)]), r103.2.1, r103.2.2), ⟨p107, (x31 ++ [((ByteArray.mk #[116, 101, 120, 116, 32]) ++ w69)]).length, c108⟩⟩ (Option.some.inj h).symm ⟨rfl, rfl, rfl, True.intro⟩ eR
            ·
             replace h := ite_f hg18 h
             exact CJ_skip <| cR ⟨(x28, (x31 ++ [((ByteArray.mk #[116, 101, 120, 116, 32]) ++ w69)]), r103.2.1, r103.2.2), ⟨p107, (x31 ++ [((ByteArray.mk #[116, 101, 120, 116, 32]) ++ w69)]).length, c108⟩⟩ (Option.some.inj h).symm ⟨rfl, rfl, rfl, True.intro⟩ eR
         ·
          rintro ⟨a78, hd75⟩ hy109
          replace h := seq_inl hK71 hy109
          show CJ _ _ _ _ _ (([(6, .string a78.1), (8, hd75.v), (15, .int .i64 a78.2.2.1)] : Slots) ++ forget _ _) (sl tyS hd75.v a78.2.1 :: Arr X6 a78.2.2.2 :: _)
          refine sR <| oM rfl rfl ?_
          obtain ⟨hg19, h⟩ := grd_Ie h
          refine oO <| O_call (c_FuseD hg19.2) rfl Try.call21 (Dels.cons del1 Dels.nil) rfl fun _ _ => nT <| CJ_seq <| sR <| oM rfl rfl <| oP (P_eql (a := a78.2.2.1) (b := (0 : Int)) rfl rfl) rfl <| nT <| CJ_condP rfl bT_dec (fun hg20 => ?_) (fun hg20 => ?_)
          ·
           replace h := ite_t hg20 h
           exact sR <| oM rfl rfl <| oO <| O_buildSlice rfl (bs_38_1_0 _) rfl fun b110 => RJ_ent (Ent.trans (t0_ eR) (sl_of_lit (t := tyI) (m := 1) [a41] rfl rfl rfl (by decide))) <| oM rfl rfl <| oO <| O_buildSlice rfl (bs_43_1_0 _) rfl fun b111 => RJ_ent (Ent.trans (t0_ eR) (sl_of_lit (t := tyS) (m := 1) [a78.1] rfl rfl rfl (by decide))) <| oA rfl rfl <| oA rfl rfl <| oA rfl rfl <| nT <| CJ_exit <| QJ_then_exit <| QJ_block_here <| QJ_then <| CJ_region <| oM rfl rfl <| oP (PJ_eq (P_add (a := ((x27 : Nat) : Int)) (b := (1 : Int)) rfl rfl (by omega)) rfl) rfl <| oA rfl rfl <| RJ_nil <| nR ⟨n, { a78.2.2.2 with fuse := ((0 : Int)).toNat }, a41, (x27 + 1), a78.1, [a41], [a78.1], false, ⟨some ⟨b110, 0, none⟩, 1, 1⟩, ⟨some ⟨b111, 0, none⟩, 1, 1⟩⟩ h ⟨rfl, rfl, rfl, rfl, rfl, rfl, True.intro⟩ (t2_ (t1_ (t0_ (t2_ (eD (eD eR))))))
          ·
           replace h := ite_f hg20 h
           refine kT <| CJ_seq <| sR <| oM rfl rfl <| oP (P_neq (a := a78.2.2.1) (b := (5 : Int)) rfl rfl) rfl <| nT <| CJ_condP rfl bT_dec (fun hg21 => ?_) (fun hg21 => ?_)
           ·
            replace h := ite_t hg21 h
            refine sR <| oA rfl rfl <| nT <| CJ_ret <| QJ_then_ret <| QJ_block_ret <| QJ_then_ret <| QJ_round_ret <| QJ_block_ret <| QJ_then_ret ?_
            have hE := Option.some.inj h
            replace hE := seq_inr hK21 hE.symm
            subst hE
            exact fE (res1 Try.results11 rfl) () (t3_ (eD (eD (eD eR))))
           ·
            replace h := ite_f hg21 h
            refine kT <| sR <| oM rfl rfl <| oM rfl rfl <| oO <| O_buildSlice rfl (bs_38_1_0 _) rfl fun b112 => ?_
            obtain ⟨hg22, h⟩ := grd_Le h
            refine oO <| O_append (t := tyI) (bytes := 8) rfl rfl del3 foc0 (Reads.lit (t := tyI) (ys := [a41]) rfl rfl (by decide) (by decide) rfl) Try.underlying38 ok_tyI (apl (m := 1) (b := 8) hg22 (by decide)).1 (apl (m := 1) (b := 8) hg22 (by decide)).2 rfl fun p114 c115 => oA rfl rfl <| oA rfl rfl <| nT <| CJ_region <| oM rfl rfl <| oM rfl rfl <| oM rfl rfl <| oV (V_index (i := x27) rfl rfl rfl (by omega) foc4 rl Try.runUnderlying88 Try.sizeOf90) rfl <| oP (P_fieldE rfl ⟨_, _, _, Try.runUnderlying90, rfl, rfl, Try.sizeOf39, rfl⟩) rfl <| oV (V_loadE rfl rfl (by omega) foc4 rl rfl rfl Try.isAgg39) rfl ?_
            obtain ⟨r116, hr117, h⟩ := bind_e h
            refine oO <| O_call (L_volumegroupmake_Keep hr117) rfl Try.call24 Dels.nil rfl fun X118 _ => ?_
            obtain ⟨hg23, h⟩ := grd_Le h
            exact oO <| O_call (c_Restart (Reads.sl _ _ _) hg23) rfl Try.call23 (Dels.cons del3 (Dels.cons del0 Dels.nil)) rfl fun _ _ => RJ_nil <| QJ_block_normal <| QJ_then <| CJ_region <| oM rfl rfl <| oP (PJ_eq (P_add (a := ((x27 : Nat) : Int)) (b := (1 : Int)) rfl rfl (by omega)) rfl) rfl <| oA rfl rfl <| RJ_nil <| nR ⟨n, (rsS ({ a78.2.2.2 with fuse := ((0 : Int)).toNat }) r116), a41, (x27 + 1), a78.1, (x29 ++ [a41]), a78.2.1, true, ⟨p114, (x29 ++ [a41]).length, c115⟩, hd75⟩ h ⟨rfl, rfl, rfl, rfl, rfl, rfl, True.intro⟩ (t0_ (t1_ (t2_ (t2_ (eD (eD eR))))))
      ·
       replace h := ite_f hg3 h
       exact CJ_exit <| QJ_then_exit <| QJ_round_exit <| QJ_block_here <| cR x25 (Option.some.inj h).symm True.intro (t0_ (t2_ (eD (eD eR))))
    ·
     rintro a24 hy120
     replace h := seq_inl hK21 hy120
     show CJ _ _ _ _ _ (([] : Slots) ++ forget _ _) (Arr X6 a24 :: _)
     refine sR ?_
     obtain ⟨r121, hr122, h⟩ := bind_e h
     refine oO <| O_call (L_volumegrouplaw13_awake hr122) rfl Try.call43 Dels.nil rfl fun _ _ => oA rfl rfl <| nT <| CJ_ret ?_
     cases h
     exact fE (res1 Try.results11 rfl) () (t1_ (eD eR))
end Go.Proofs
namespace Go.Proofs
open Go.VG
abbrev txt12 : List ByteArray := [(ByteArray.mk #[97]), (ByteArray.mk #[98]), (ByteArray.mk #[99]), (ByteArray.mk #[100]), (ByteArray.mk #[101]), (ByteArray.mk #[102]), (ByteArray.mk #[103]), (ByteArray.mk #[104]), (ByteArray.mk #[105]), (ByteArray.mk #[107]), (ByteArray.mk #[108]), (ByteArray.mk #[109])]
theorem txt12_size {i : Nat} : (txt12.getD i ByteArray.empty).size ≤ 1 := by
  match i with
  | 0 => decide
  | 1 => decide
  | 2 => decide
  | 3 => decide
  | 4 => decide
  | 5 => decide
  | 6 => decide
  | 7 => decide
  | 8 => decide
  | 9 => decide
  | 10 => decide
  | 11 => decide
  | _ + 12 => exact Nat.zero_le _
abbrev n40 : List Nat := List.replicate 4 40
abbrev asI (L : List Nat) : List Int := L.map fun (v : Nat) => (v : Int)
theorem asI_getD {L : List Nat} {k : Nat} : (asI L).getD k 0 = ((L.getD k 0 : Nat) : Int) := by
  simp only [asI, List.getD_eq_getElem?_getD, List.getElem?_map]
  cases L[k]? <;> rfl
abbrev lowB (b t : Nat) : Nat := b ||| (t &&& (16 - t))
theorem F1 : ∀ b t : Fin 16, andW ((b.val : Nat) : Int) ((t.val : Nat) : Int) = ((b.val &&& t.val : Nat) : Int) := by decide +kernel
theorem F2 : ∀ b t : Fin 16, orW ((b.val : Nat) : Int) (andW ((t.val : Nat) : Int) (0 - ((t.val : Nat) : Int))) = ((lowB b.val t.val : Nat) : Int) := by decide +kernel
theorem F3 : ∀ b t : Fin 16, t.val ≠ 0 → lowB b.val t.val &&& t.val ≠ 0 := by decide +kernel
theorem F4 : ∀ b t u : Fin 16, b.val &&& u.val ≠ 0 → lowB b.val t.val &&& u.val ≠ 0 := by decide +kernel
theorem F5 : ∀ b t : Fin 16, lowB b.val t.val < 16 := by decide +kernel
theorem F6 : ∀ b t : Fin 16, b.val &&& t.val ≠ 0 → ∃ e : Fin 4, e.val ∈ bitsL ((b.val : Nat) : Int) 4 ∧ e.val ∈ bitsL ((t.val : Nat) : Int) 4 := by decide +kernel
theorem F7 : ∀ b : Fin 16, (∀ e, e ∈ bitsL ((b.val : Nat) : Int) 4 → e < 4) ∧ (bitsL ((b.val : Nat) : Int) 4).length ≤ 4 := by decide +kernel
theorem F8 : ∀ b : Fin 16, b.val ≠ 0 → (bitsL ((b.val : Nat) : Int) 4).length ≠ 0 := by decide +kernel
theorem in_mem {ds : List Nat} {e : Nat} : In ds e ↔ e ∈ ds := by
  constructor
  · rintro ⟨j, hj, h⟩
    rw [← h, show ds.getD j 0 = ds[j] by simp [List.getD_eq_getElem?_getD, hj]]
    exact List.getElem_mem hj
  · intro h
    obtain ⟨i, hi, e⟩ := List.getElem_of_mem h
    exact ⟨i, hi, by simp [List.getD_eq_getElem?_getD, hi, e]⟩
theorem bitsL_dist {v : Int} {m : Nat} : Dist (bitsL v m) := fun i j h1 h2 h => by
  have hn : (bitsL v m).Nodup := List.Nodup.sublist List.filter_sublist List.nodup_range
  have hi : i < (bitsL v m).length := by omega
  have e1 : (bitsL v m).getD i 0 = (bitsL v m)[i] := by simp [List.getD_eq_getElem?_getD, hi]
  have e2 : (bitsL v m).getD j 0 = (bitsL v m)[j] := by simp [List.getD_eq_getElem?_getD, h2]
  rw [e1, e2] at h
  exact (List.pairwise_iff_getElem.1 hn) i j hi h2 h1 h
theorem hist_l2 {L : List Nat} (hL : ∀ k, k < L.length → L.getD k 0 ≠ 0 ∧ L.getD k 0 < 16) : ∀ (N k b : Nat), L.length - k < N → k ≤ L.length → b < 16 → (∀ j, j < k → b &&& L.getD j 0 ≠ 0) →
    ∃ v : Nat, volumegrouplaw13_CopiesHistory_l2 (asI L) N ((b : Nat) : Int) k = some ((v : Nat) : Int) ∧ v < 16 ∧ ∀ j, j < L.length → v &&& L.getD j 0 ≠ 0
  | 0, _, _, h, _, _, _ => absurd h (by omega)
  | N + 1, k, b, h, hk, hb, hj => by
    show ∃ v : Nat, volumegrouplaw13_CopiesHistory_l2_b _ _ _ _ = _ ∧ _
    unfold volumegrouplaw13_CopiesHistory_l2_b
    rw [asI_getD, List.length_map]
    by_cases hlt : k < L.length
    · obtain ⟨t0, t16⟩ := hL k hlt
      have f1 := F1 ⟨b, hb⟩ ⟨L.getD k 0, t16⟩
      have f2 := F2 ⟨b, hb⟩ ⟨L.getD k 0, t16⟩
      have f3 := F3 ⟨b, hb⟩ ⟨L.getD k 0, t16⟩ t0
      have f5 := F5 ⟨b, hb⟩ ⟨L.getD k 0, t16⟩
      simp only at f1 f2 f3 f5
      rw [if_pos (by omega), f1]
      by_cases h0 : b &&& L.getD k 0 = 0
      · rw [if_pos (by omega), grd_pos (inI64_of (by omega)), f2]
        refine hist_l2 hL N (k + 1) _ (by omega) (by omega) f5 (fun j hj' => ?_)
        rcases Nat.lt_or_ge j k with h5 | h5
        · obtain ⟨_, u16⟩ := hL j (by omega)
          exact F4 ⟨b, hb⟩ ⟨L.getD k 0, t16⟩ ⟨L.getD j 0, u16⟩ (hj j h5)
        · rw [show j = k by omega]; exact f3
      · rw [if_neg (by omega)]
        refine hist_l2 hL N (k + 1) b (by omega) (by omega) hb (fun j hj' => ?_)
        rcases Nat.lt_or_ge j k with h5 | h5
        · exact hj j h5
        · rw [show j = k by omega]; exact h0
    · rw [if_neg (by omega)]
      exact ⟨b, rfl, hb, fun j h5 => hj j (by omega)⟩
theorem hist_l5 {B : List ByteArray} {r : api_Copy × Int × ArrS} : ∀ (N k : Nat) (b : Bool), B.length - k < N → (b = true ∨ ∃ j, k ≤ j ∧ j < B.length ∧ B.getD j ByteArray.empty = r.1.Text) → volumegrouplaw13_CopiesHistory_l5 B r N b k = some true
  | 0, _, _, h, _ => absurd h (by omega)
  | N + 1, k, b, h, hb => by
    show volumegrouplaw13_CopiesHistory_l5_b _ _ _ _ _ = _
    unfold volumegrouplaw13_CopiesHistory_l5_b
    by_cases hlt : k < B.length
    · rw [if_pos (by omega)]
      by_cases hb' : b = true
      · rw [if_pos hb']
        exact hist_l5 N (k + 1) true (by omega) (.inl rfl)
      · rw [if_neg hb']
        refine hist_l5 N (k + 1) _ (by omega) ?_
        rcases hb with hb | ⟨j, h1, h2, h3⟩
        · exact absurd hb hb'
        · by_cases hjk : j = k
          · rw [hjk] at h3; exact .inl (decide_eq_true h3)
          · exact .inr ⟨j, by omega, h2, h3⟩
    · rw [if_neg (by omega)]
      rcases hb with hb | ⟨j, h1, h2, h3⟩
      · rw [hb]
      · omega
structure HS (i : Nat) (s : ArrS) (c : Nat → Txt) (L : List Nat) (B : List ByteArray) (Nu : Nat → Nat) : Prop where
  hi : HI n40 (40 + 40 * i) 40 (1 + i) s c
  hf : s.fuse = 0
  hL : ∀ k, k < L.length → L.getD k 0 ≠ 0 ∧ L.getD k 0 < 16
  hl : 0 < L.length ∧ L.length ≤ 1 + i
  hB : B.length ≤ 1 + i
  num : ∀ k, k < L.length → ∀ e, e < 4 → e ∈ bitsL ((L.getD k 0 : Nat) : Int) 4 → Nu k ≤ w1 s e
  sure : ∀ e, e < 4 → e ∈ bitsL ((L.getD 0 0 : Nat) : Int) 4 → Nu 0 ≤ (c e).q
  may : ∀ e, e < 4 → Nu 0 ≤ (c e).q → (c e).s ∈ B
  bnd : ∀ e, e < 4 → ∃ k, k < L.length ∧ (c e).q ≤ Nu k
section
variable {i : Nat} {s : ArrS} {c : Nat → Txt} {L : List Nat} {B : List ByteArray} {Nu : Nat → Nat} {v : Nat}
theorem HS.meet (h : HS i s c L B Nu) (hv : v < 16) (hm : ∀ j, j < L.length → v &&& L.getD j 0 ≠ 0) {k : Nat} (hk : k < L.length) : ∃ e, e < 4 ∧ e ∈ bitsL ((v : Nat) : Int) 4 ∧ e ∈ bitsL ((L.getD k 0 : Nat) : Int) 4 := by
  obtain ⟨_, t16⟩ := h.hL k hk
  obtain ⟨e, h1, h2⟩ := F6 ⟨v, hv⟩ ⟨L.getD k 0, t16⟩ (hm k hk)
  exact ⟨e.val, e.isLt, h1, h2⟩
theorem HS.v0 (h : HS i s c L B Nu) (hm : ∀ j, j < L.length → v &&& L.getD j 0 ≠ 0) : v ≠ 0 := fun h0 => hm 0 h.hl.1 (by rw [h0, Nat.zero_and])
theorem in40 (hv : v < 16) : ∀ i, i < (bitsL ((v : Nat) : Int) 4).length → (bitsL ((v : Nat) : Int) 4).getD i 0 < n40.length := fun i hi => by
  have := (F7 ⟨v, hv⟩).1 _ (in_mem.1 ⟨i, hi, rfl⟩)
  simpa using this
theorem HS.cov (h : HS i s c L B Nu) (hv : v < 16) (hm : ∀ j, j < L.length → v &&& L.getD j 0 ≠ 0) {g : Nat} (hgw : ∀ j, j < (bitsL ((v : Nat) : Int) 4).length → w1 s ((bitsL ((v : Nat) : Int) 4).getD j 0) ≤ g) {e : Nat} (he : e < n40.length) : (c e).q ≤ g := by
  obtain ⟨k, hk, h1⟩ := h.bnd e (by simpa using he)
  obtain ⟨d, d4, d1, d2⟩ := h.meet hv hm hk
  have h2 := h.num k hk d d4 d2
  obtain ⟨j, hj, hje⟩ := in_mem.2 d1
  have := hgw j hj
  rw [hje] at this
  omega
theorem HS.ok {t : ArrS} {c' : Nat → Txt} {g : Nat} {x : ByteArray} (h : HS i s c L B Nu) (hv : v < 16) (hm : ∀ j, j < L.length → v &&& L.getD j 0 ≠ 0) (ht : HI n40 (40 + 40 * (i + 1)) 40 (1 + (i + 1)) t c') (hf : t.fuse = 0) (hcov : ∀ e, e < n40.length → (c e).q ≤ g)
    (h1 : ∀ e, In (bitsL ((v : Nat) : Int) 4) e → (c' e).q = g + 1 ∧ (c' e).s = x ∧ w1 t e = g + 1) (h2 : ∀ e, ¬ In (bitsL ((v : Nat) : Int) 4) e → c' e = c e) : HS (i + 1) t c' [v] [x] (fun _ => g + 1) := by
  have hv0 := h.v0 hm
  refine ⟨ht, hf, fun k hk => ?_, ⟨by simp, by simp⟩, by simp, fun k hk e he hm => ?_, fun e he hm => ?_, fun e he hq => ?_, fun e he => ⟨0, by simp, ?_⟩⟩
  · have : k = 0 := by simp at hk; omega
    rw [this]; exact ⟨hv0, hv⟩
  · have : k = 0 := by simp at hk; omega
    rw [this] at hm
    rw [(h1 e (in_mem.2 hm)).2.2]; exact Nat.le_refl _
  · rw [(h1 e (in_mem.2 hm)).1]; exact Nat.le_refl _
  · by_cases hi : In (bitsL ((v : Nat) : Int) 4) e
    · rw [(h1 e hi).2.1]; simp
    · rw [h2 e hi] at hq
      have := hcov e (by simpa using he)
      have hq' : g + 1 ≤ (c e).q := hq
      omega
  · show (c' e).q ≤ g + 1
    by_cases hi : In (bitsL ((v : Nat) : Int) 4) e
    · rw [(h1 e hi).1]; exact Nat.le_refl _
    · rw [h2 e hi]
      have := hcov e (by simpa using he)
      omega
theorem HS.fail {u : ArrS} {c' : Nat → Txt} {m' : Nat → Nat} {g : Nat} {x : ByteArray} {B' : List ByteArray} (h : HS i s c L B Nu) (hv : v < 16) (hm : ∀ j, j < L.length → v &&& L.getD j 0 ≠ 0) (hu : HI n40 (40 + 40 * (i + 1)) 40 (1 + (i + 1)) u c') (hf : u.fuse = 0) (hcov : ∀ e, e < n40.length → (c e).q ≤ g)
    (hmu : ∀ e, e < n40.length → m' e ≤ w1 u e) (hms : ∀ e, e < n40.length → w1 s e ≤ m' e)
    (hc : ∀ e, c' e = c e ∨ (In (bitsL ((v : Nat) : Int) 4) e ∧ (c' e).q = g + 1 ∧ (c' e).s = x ∧ ∀ j, j < (bitsL ((v : Nat) : Int) 4).length → g + 1 ≤ m' ((bitsL ((v : Nat) : Int) 4).getD j 0)))
    (hB : B'.length ≤ 1 + (i + 1)) (hBB : ∀ y, y ∈ B → y ∈ B') (hx : x ∈ B') : ∃ Nu', HS (i + 1) u c' (L ++ [v]) B' Nu' := by
  classical
  have hv0 := h.v0 hm
  have hl0 := h.hl
  have hgl : ∀ k, k < L.length → (L ++ [v]).getD k 0 = L.getD k 0 := fun k hk => by simp [List.getD_eq_getElem?_getD, List.getElem?_append_left hk]
  have hgr : (L ++ [v]).getD L.length 0 = v := by simp [List.getD_eq_getElem?_getD]
  have hk' : ∀ k, k < (L ++ [v]).length → k < L.length ∨ k = L.length := fun k hk => by simp at hk; omega
  let P : Prop := ∀ j, j < (bitsL ((v : Nat) : Int) 4).length → g + 1 ≤ m' ((bitsL ((v : Nat) : Int) 4).getD j 0)
  let Nu' : Nat → Nat := fun k => if k < L.length then Nu k else if P then g + 1 else 0
  have n1 : ∀ k, k < L.length → Nu' k = Nu k := fun k hk => if_pos hk
  have n2 : Nu' L.length = if P then g + 1 else 0 := if_neg (Nat.lt_irrefl _)
  have n0 : Nu' 0 = Nu 0 := n1 0 hl0.1
  refine ⟨Nu', hu, hf, fun k hk => ?_, ⟨by simp, by simp; omega⟩, hB, fun k hk e he hme => ?_, fun e he hme => ?_, fun e he hq => ?_, fun e he => ?_⟩
  · rcases hk' k hk with h1 | h1
    · rw [hgl k h1]; exact h.hL k h1
    · rw [h1, hgr]; exact ⟨hv0, hv⟩
  · have he' : e < n40.length := by simpa using he
    rcases hk' k hk with h1 | h1
    · rw [hgl k h1] at hme
      rw [n1 k h1]
      exact Nat.le_trans (h.num k h1 e he hme) (Nat.le_trans (hms e he') (hmu e he'))
    · rw [h1, hgr] at hme
      rw [h1, n2]
      split
      · rename_i hP
        obtain ⟨j, hj, hje⟩ := in_mem.2 hme
        have := hP j hj
        rw [hje] at this
        exact Nat.le_trans this (hmu e he')
      · exact Nat.zero_le _
  · rw [hgl 0 hl0.1] at hme
    rw [n0]
    have h1 := h.sure e he hme
    rcases hc e with h2 | ⟨_, h2, _⟩
    · rw [h2]; exact h1
    · rw [h2]; have := hcov e (by simpa using he); omega
  · rw [n0] at hq
    rcases hc e with h2 | ⟨_, _, h2, _⟩
    · rw [h2] at hq ⊢; exact hBB _ (h.may e he hq)
    · rw [h2]; exact hx
  · rcases hc e with h2 | ⟨_, h2, _, h3⟩
    · obtain ⟨k, h4, h5⟩ := h.bnd e he
      exact ⟨k, by simp; omega, by rw [h2, n1 k h4]; exact h5⟩
    · exact ⟨L.length, by simp, by rw [h2, n2, if_pos h3]; exact Nat.le_refl _⟩
end
theorem next_ok {g : Nat} (hg : g < 1048575) : copies_Next ((g : Nat) : Int) = some (((g : Nat) : Int) + 1, 0) := by
  unfold copies_Next
  rw [if_neg (by omega), if_neg (by omega)]
theorem text_size {y : ByteArray} (h : y.size ≤ 1) : (ByteArray.mk #[116, 101, 120, 116, 32] ++ y).size ≤ 8 := by
  rw [ByteArray.size_append]
  have : (ByteArray.mk #[116, 101, 120, 116, 32]).size = 5 := rfl
  omega
theorem hist_l1 {l : List volumegrouplaw13_Try} (h12 : l.length ≤ 12) : ∀ (N i : Nat) (s : ArrS) (c : Nat → Txt) (L : List Nat) (B : List ByteArray) (Nu : Nat → Nat) (z : Int) (y : ByteArray) (b : Bool), l.length - i < N → i ≤ l.length → HS i s c L B Nu →
    ∃ t, volumegrouplaw13_CopiesHistory_l1 l N s z i y (asI L) B b = some (.inl t)
  | 0, _, _, _, _, _, _, _, _, _, h, _, _ => absurd h (by omega)
  | N + 1, i, s, c, L, B, Nu, z, y, b, h, hi, hs => by
    show ∃ t, volumegrouplaw13_CopiesHistory_l1_b _ _ _ _ _ _ _ _ _ = _
    unfold volumegrouplaw13_CopiesHistory_l1_b
    by_cases hlt : i < l.length
    · rw [if_pos (by omega)]
      simp only [lt]
      generalize hT : l.getD i (⟨0, 0, false, 0⟩ : volumegrouplaw13_Try) = T
      have hb16 : (T.Bits &&& (15 : UInt8)).toNat < 16 := by
        have h1 : (T.Bits &&& (15 : UInt8)).toNat ≤ 15 := by rw [UInt8.toNat_and]; exact Nat.and_le_right
        omega
      generalize (T.Bits &&& (15 : UInt8)).toNat = b0 at hb16
      have hF := fuel_big
      obtain ⟨v, l2, hv, hm⟩ := hist_l2 hs.hL FUEL 0 b0 (by have := hs.hl; omega) (by omega) hb16 (fun j hj => absurd hj (by omega))
      rw [l2]; simp only [Option.bind_some]
      obtain ⟨b1, hb1⟩ : ∃ b1, (if ((((v : Nat) : Int) ≠ z) ∨ T.Settle = true) then some true else some b : Option Bool) = some b1 := by
        split
        · exact ⟨_, rfl⟩
        · exact ⟨_, rfl⟩
      rw [hb1]; simp only [Option.bind_some]
      have hin := in40 hv
      have hlen := (F7 ⟨v, hv⟩).2
      have hne := F8 ⟨v, hv⟩ (hs.v0 hm)
      simp only at hlen hne
      rw [some_eq (hs.hi.lv 0 (by simp)) (by omega)]; simp only [Option.bind_some]
      have hf64 : (T.Fuse % (64 : UInt8)).toNat < 64 := by
        rw [UInt8.toNat_mod]; exact Nat.mod_lt _ (by decide)
      generalize (T.Fuse % (64 : UInt8)).toNat = f at hf64
      rw [grd_pos (inI64_of (by omega)), grd_pos (decide_eq_true (by simp; omega))]
      have hw1 := txt12_size (i := i)
      generalize txt12.getD i ByteArray.empty = w at hw1 ⊢
      have hx8 := text_size hw1
      have hs5 : (ByteArray.mk #[116, 101, 120, 116, 32]).size = 5 := rfl
      rw [grd_pos (inLen_of (by omega))]
      generalize ByteArray.mk #[116, 101, 120, 116, 32] ++ w = x at hx8 ⊢
      have hS := hs.hi.fuse (f := ((f : Nat) : Int).toNat)
      generalize hds : bitsL ((v : Nat) : Int) 4 = ds at hin hlen hne
      obtain ⟨g, hg, hgM, hgw⟩ := hS.great hin
      have hcov : ∀ e, e < n40.length → (c e).q ≤ g := fun e he => hs.cov hv hm (g := g) (by rw [hds]; exact hgw) he
      have hr : rgR 40 = 38 := rfl
      have hdist : Dist ds := by rw [← hds]; exact bitsL_dist
      obtain ⟨ks, hks⟩ := keep_ok T.Keep
      have hBl := hs.hB
      -- what a commit of a text leaves
      have hcom : ∀ X : ByteArray, X.size ≤ 8 → (∃ t c', copies_Commit (dks ds 40) (greatR { s with fuse := ((f : Nat) : Int).toNat } ds + 1) X { s with fuse := ((f : Nat) : Int).toNat } = some (true, 0, t) ∧ HS (i + 1) { t with fuse := ((0 : Int)).toNat } c' [v] [X] (fun _ => g + 1)) ∨
          (∃ sw t, copies_Commit (dks ds 40) (greatR { s with fuse := ((f : Nat) : Int).toNat } ds + 1) X { s with fuse := ((f : Nat) : Int).toNat } = some (sw, 5, t) ∧ t.writes ≤ 10000 ∧ ∀ B' : List ByteArray, B'.length ≤ 1 + (i + 1) → (∀ y, y ∈ B → y ∈ B') → X ∈ B' → ∃ c' Nu', HS (i + 1) (rsS { t with fuse := ((0 : Int)).toNat } ks) c' (L ++ [v]) B' Nu') := fun X hX => by
        rcases hS.commit (KK := 40 + 40 * (i + 1)) (g := g) (x := X) hdist hin hne (by omega) hX (by omega) (by omega) (by omega) (by omega) hg hcov with ⟨t, c', t1, t2, -, -, t5, t6⟩ | ⟨-, sw, t, c', m', t1, t2, t3, t4, t5⟩
        · exact .inl ⟨t, c', t1, hs.ok hv hm (t2.fuse.mono (Nat.le_refl _) (by omega) (by omega)) rfl hcov (by rw [hds]; exact t5) (by rw [hds]; exact t6)⟩
        · refine .inr ⟨sw, t, t1, by omega, fun B' b1 b2 b3 => ?_⟩
          obtain ⟨u1, u2⟩ := t3 ((0 : Int)).toNat ks
          exact ⟨c', hs.fail hv hm (u1.mono (Nat.le_refl _) (by omega) (by omega)) rfl hcov u2 t4 (by rw [hds]; exact t5) b1 b2 b3⟩
      have hend : ∀ (sw : Bool) (y' : ByteArray) (B' : List ByteArray) (t : ArrS), t.writes ≤ 10000 → (∃ c' Nu', HS (i + 1) (rsS { t with fuse := ((0 : Int)).toNat } ks) c' (L ++ [v]) B' Nu') →
          ∃ u, (if ((5 : Int) ≠ (5 : Int)) then some (.inr false) else
            grd (inLen ((asI L).length + 1)) <| Option.bind (volumegroupmake_Keep T.Keep) fun r116 => grd (inLen ({ t with fuse := ((0 : Int)).toNat } : ArrS).writes) <|
            volumegrouplaw13_CopiesHistory_l1 l N (rsS ({ t with fuse := ((0 : Int)).toNat }) r116) ((v : Nat) : Int) (i + 1) y' (asI L ++ [((v : Nat) : Int)]) B' true : Option ((ArrS) ⊕ Bool)) = some (.inl u) := fun sw y' B' t hw ⟨c', Nu', hH⟩ => by
        have hl := hs.hl
        rw [if_neg (by decide), grd_pos (inLen_of (by simp; omega)), hks]; simp only [Option.bind_some]
        rw [grd_pos (inLen_of (by show t.writes ≤ _; omega)), show asI L ++ [((v : Nat) : Int)] = asI (L ++ [v]) by simp [asI]]
        exact hist_l1 h12 N (i + 1) _ c' (L ++ [v]) B' Nu' _ y' true (by omega) (by omega) hH
      by_cases hb' : b1 = true
      · rw [if_pos hb']
        obtain ⟨k, k1, k2, k3⟩ := hS.settle (g := g) hin hne (by omega) (by omega) hg
        -- the chosen text may be
        have hmay : (c (ds.getD k 0)).s ∈ B := by
          obtain ⟨e, e4, e1, e2⟩ := hs.meet hv hm hs.hl.1
          have h1 := hs.sure e e4 e2
          rw [hds] at e1
          obtain ⟨j, hj, hje⟩ := in_mem.2 e1
          have h2 := k2 j hj
          rw [hje] at h2
          exact hs.may _ (by simpa using hin k k1) (by omega)
        rcases hcom (c (ds.getD k 0)).s (hs.hi.sz _ (hin k k1)) with ⟨t, c', t1, t2⟩ | ⟨sw, t, t1, t2, t3⟩
        · rw [k3 _ t1]; simp only [Option.bind_some]
          rw [if_pos (by trivial)]
          obtain ⟨j, hj, hje⟩ := List.getElem_of_mem hmay
          rw [hist_l5 FUEL 0 false (by omega) (.inr ⟨j, by omega, hj, by rw [if_neg (by decide), ← hje]; simp [List.getD_eq_getElem?_getD, hj]⟩)]
          simp only [Option.bind_some]
          rw [if_neg (by rw [if_neg (by decide)]; rintro (h | h) <;> first | exact h rfl | exact h trivial)]
          simp only [seqO, Option.bind_some, Sum.elim_inl]
          rw [grd_pos (inI64_of (by omega)), if_pos (by trivial), if_neg (by decide)]
          exact hist_l1 h12 N (i + 1) _ c' [v] [(c (ds.getD k 0)).s] _ _ _ false (by omega) (by omega) t2
        · rw [k3 _ t1]; simp only [Option.bind_some]
          rw [if_neg (by decide)]
          simp only [seqO, Option.bind_some, Sum.elim_inl]
          rw [grd_pos (inI64_of (by omega)), if_neg (by decide)]
          exact hend sw y B t t2 (t3 B (by omega) (fun _ h => h) hmay)
      · rw [if_neg hb', scan_eq (fun j hj => hS.lv _ (hin j hj)) (by omega)]; simp only [Option.bind_some]
        rw [show copies_Next (greatR { s with fuse := ((f : Nat) : Int).toNat } ds) = some (greatR { s with fuse := ((f : Nat) : Int).toNat } ds + 1, 0) by rw [hg]; exact next_ok (by omega)]; simp only [Option.bind_some]
        rw [if_neg (by decide)]
        rcases hcom x hx8 with ⟨t, c', t1, t2⟩ | ⟨sw, t, t1, t2, t3⟩
        · rw [t1]; simp only [Option.bind_some]
          rw [grd_pos (inLen_of (by omega)), if_pos (by trivial)]
          simp only [seqO, Option.bind_some, Sum.elim_inl]
          rw [grd_pos (inI64_of (by omega)), if_pos (by trivial)]
          exact hist_l1 h12 N (i + 1) _ c' [v] [x] _ _ _ false (by omega) (by omega) t2
        · rw [t1]; simp only [Option.bind_some]
          rw [grd_pos (inLen_of (by omega)), if_neg (by decide)]
          simp only [seqO, Option.bind_some, Sum.elim_inl]
          rw [grd_pos (inI64_of (by omega)), if_neg (by decide)]
          exact hend sw y (B ++ [x]) t t2 (t3 (B ++ [x]) (by simp; omega) (fun _ h => List.mem_append_left _ h) (by simp))
    · rw [if_neg (by omega)]
      exact ⟨s, rfl⟩
theorem bits15 : bitsL 15 4 = List.range 4 := by decide
theorem PCopiesHistory (l : List volumegrouplaw13_Try) : volumegrouplaw13_CopiesHistory l = some true := by
  unfold volumegrouplaw13_CopiesHistory
  by_cases h12 : (12 : Int) < ((l.length : Nat) : Int)
  · rw [if_pos h12, awake13]; rfl
  · rw [if_neg h12, show volumegrouplaw13_areas (4 : Int) (40 : Int) = _ from areas_eq (m := 4) (n := 40) (by omega) (by omega)]; simp only [Option.bind_some, Option.elim]
    rw [some_eq (lvA_mkS (m := 4) (n := 40) (e := 0) (by omega) (by omega)) (by omega), bits15]; simp only [Option.bind_some]
    obtain ⟨t, c, t1, t2, t3, t4⟩ := start_ok (m := 4) (n := 40) (x := ByteArray.mk #[48]) (by omega) (by omega) (by decide)
    rw [t1]; simp only [Option.bind_some]
    have hF := fuel_big
    rw [if_neg (by decide)]
    have hb : bitsL ((15 : Nat) : Int) 4 = List.range 4 := bits15
    obtain ⟨u, u1⟩ := hist_l1 (l := l) (by omega) FUEL 0 t c [15] [ByteArray.mk #[48]] (fun _ => 1) 15 (ByteArray.mk #[48]) false (by omega) (by omega) ⟨t2, t3, fun k hk => by
        have : k = 0 := by simp at hk; omega
        rw [this]; decide, by simp, by simp, fun k hk e he _ => by rw [(t4 e he).2.2]; exact Nat.le_refl _, fun e he _ => by rw [(t4 e he).1]; exact Nat.le_refl _, fun e he _ => by rw [(t4 e he).2.1]; simp, fun e he => ⟨0, by simp, by rw [(t4 e he).1]; exact Nat.le_refl _⟩⟩
    have u1' : volumegrouplaw13_CopiesHistory_l1 l FUEL t (15 : Int) 0 (ByteArray.mk #[48]) [(15 : Int)] [ByteArray.mk #[48]] false = some (.inl u) := u1
    rw [u1']
    simp only [seqO, Option.bind_some, Sum.elim_inl]
    rw [awake13]; rfl
end Go.Proofs
