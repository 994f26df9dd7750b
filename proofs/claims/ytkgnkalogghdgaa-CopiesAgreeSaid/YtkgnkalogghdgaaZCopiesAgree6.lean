/- CopiesAgree, part 6 of the proof: PSet, PHist, LCopiesAgree, PCopiesAgree. -/
import Derived.WalkKit
import Derived.Orders
import Derived.RangeFuncLeaves
import Derived.RangeFuncCalls
import Derived.TacticsIn
import Derived.Handy
import Derived.OrdersHeld
import Derived.OrdersIn
import Derived.Below
import Derived.OpenShut
import Derived.Deep.Slices
import Derived.Scope
import Derived.KernelRfl
import Derived.RangeFuncRecord
import Derived.ChangeKeysEq
import Derived.Laws.BytesArg
import Derived.ProofKit
import Derived.ShutString
import Derived.ChangeOld
import Derived.Test.YtkgnkalogghdgaaChecked
import Derived.Test.YtkgnkalogghdgaaRows
import Derived.Test.YtkgnkalogghdgaaZCopiesAgree5
namespace Go.Proofs
open Go.VG
theorem Hold.freeN {A B : Nat → UInt64} {r n : Nat} {c : Option Txt} (h : Hold A r 0 c) (hr : 0 < r) (hn : n + oLen c ≤ r) (hB : ∀ b, b < 2 + r → (∀ j, j < n → b ≠ plc r (nextSt r c) j) → B b = A b) : Hold B r 0 c := by
  refine h.congr (hB 0 (by omega) (fun j _ e => ?_)).symm fun i hi => (hB _ (plc_lt hr) (fun j hj e => ?_)).symm
  · have := plc_ge (r := r) (st := nextSt r c) (i := j); omega
  · exact next_ne hi hj hn e.symm
theorem Lv.fuse {ns : List Nat} {K d n m : Nat} {s : ArrS} (h : Lv ns K d n s) : Lv ns K d n { s with fuse := m } := ⟨h.ok.fuse, h.dn, h.hd, h.hn, h.h4, h.hb, h.ms, h.cl, h.hK⟩
theorem Lv.mono {ns : List Nat} {K K' d n : Nat} {s : ArrS} (h : Lv ns K d n s) (hK : K ≤ K') (h9 : K' ≤ 900000) : Lv ns K' d n s := ⟨h.ok.mono hK, h.dn, h.hd, h.hn, h.h4, h.hb, h.ms, h.cl, h9⟩
abbrev w1 (s : ArrS) (e : Nat) : Nat := (dQ (now s e 1)).toNat
section
variable {ns : List Nat} {n : Nat}
def Aft (ns : List Nat) (K n : Nat) (c : Nat → Option Txt) (V : Nat → Nat → Prop) (t : ArrS) : Prop :=
  t.writes ≤ K ∧ ∀ (f : Nat) (ks : List Bool) (e : Nat), e < ns.length → Lv ns K e n (rsS { t with fuse := f } ks) ∧ Hold (now (rsS { t with fuse := f } ks) e) (rgR n) 0 (c e) ∧ V e (w1 (rsS { t with fuse := f } ks) e)
theorem aft_of {K : Nat} {t : ArrS} {c : Nat → Option Txt} {V : Nat → Nat → Prop} (hok : ArrOk ns K t) (hms : ∀ e, e < ns.length → miss t e = false) (hn : ∀ e, e < ns.length → ns.getD e 0 = n) (h4 : 4 ≤ n) (hb : n ≤ 1000) (hK : K ≤ 900000) (A : Nat → Nat → UInt64)
    (hA : ∀ e, e < ns.length → Hold (A e) (rgR n) 0 (c e) ∧ V e (dQ (A e 1)).toNat) (k : Nat → Nat) (hk : ∀ e, e < ns.length → k e + oLen (c e) ≤ rgR n)
    (hc : ∀ e, e < ns.length → ∀ b, b < n → (∀ j, j < k e → b ≠ plc (rgR n) (nextSt (rgR n) (c e)) j) → cand t e b = [A e b]) : Aft ns K n c V t := by
  refine ⟨hok.wr, fun f ks e he => ?_⟩
  obtain ⟨r1, r2, r3⟩ := rg_le h4 hb
  have R := (hok.fuse (m := f)).rs ks
  have hnow : ∀ b, b < n → (∀ j, j < k e → b ≠ plc (rgR n) (nextSt (rgR n) (c e)) j) → now (rsS { t with fuse := f } ks) e b = A e b := fun b hb' hj => by
    have h1 := R.now e b he (by rw [hn e he]; exact hb')
    rw [show cand { t with fuse := f } e b = cand t e b from rfl, hc e he b hb' hj] at h1
    simpa using h1
  refine ⟨⟨R.ok, R.dn, he, hn e he, h4, hb, by rw [R.miss]; exact hms e he, fun b _ => R.cand e b, hK⟩, ?_, ?_⟩
  · exact (hA e he).1.freeN (by omega) (hk e he) fun b hb' hj => hnow b (by omega) hj
  · show V e (dQ (now _ e 1)).toNat
    rw [hnow 1 (by omega) (fun j _ h => by have := plc_ge (r := rgR n) (st := nextSt (rgR n) (c e)) (i := j); omega)]
    exact (hA e he).2
theorem Aft.rs {K : Nat} {t : ArrS} {c : Nat → Option Txt} {V : Nat → Nat → Prop} (h : Aft ns K n c V t) (ks : List Bool) (e : Nat) (he : e < ns.length) : Lv ns K e n (rsS t ks) ∧ Hold (now (rsS t ks) e) (rgR n) 0 (c e) ∧ V e (w1 (rsS t ks) e) := h.2 t.fuse ks e he
theorem commitF_l1 {ds : List Nat} {q : Nat} {x : ByteArray} {c : Nat → Option Txt} {V : Nat → Nat → Prop} {L KK : Nat} (hx : x.size ≤ 8192) (hq : 1 ≤ q ∧ q ≤ 1048575) (hL : (encT x).length = L) (hd : Dist ds) (hin : ∀ i, i < ds.length → ds.getD i 0 < ns.length)
    (hfit : ∀ i, i < ds.length → L + oLen (c (ds.getD i 0)) ≤ rgR n) (hmq : ∀ i, i < ds.length → V (ds.getD i 0) q) (hKK : KK ≤ 700000) : ∀ (N i K : Nat) (s : ArrS), ds.length - i < N → i ≤ ds.length → K + (ds.length - i) * (L + 1) ≤ KK → (∀ e, e < ns.length → Lv ns K e n s) →
    (∀ e, e < ns.length → Hold (now s e) (rgR n) 0 (c e)) → (∀ e, e < ns.length → V e (w1 s e)) → (∀ j, j < i → Hold (now s (ds.getD j 0)) (rgR n) 1 (some ⟨q, nextSt (rgR n) (c (ds.getD j 0)), x⟩)) →
    (∃ t, copies_Commit_l1 (dks ds n) (q : Int) x N s i = some (.inl t) ∧ (∀ e, e < ns.length → Lv ns (K + (ds.length - i) * (L + 1)) e n t) ∧ (s.fuse = 0 → t.fuse = 0) ∧ (∀ e, e < ns.length → Hold (now t e) (rgR n) 0 (c e)) ∧ (∀ e, e < ns.length → V e (w1 t e)) ∧
      (∀ j, j < ds.length → Hold (now t (ds.getD j 0)) (rgR n) 1 (some ⟨q, nextSt (rgR n) (c (ds.getD j 0)), x⟩)) ∧ (∀ e, (∀ j, i ≤ j → j < ds.length → ds.getD j 0 ≠ e) → now t e = now s e)) ∨
    (s.fuse ≠ 0 ∧ ∃ t, copies_Commit_l1 (dks ds n) (q : Int) x N s i = some (.inr (false, 5, t)) ∧ Aft ns KK n c V t)
  | 0, _, _, _, h, _, _, _, _, _, _ => absurd h (by omega)
  | N + 1, i, K, s, h, hi, hK, hl, h0, hm, h1 => by
    have e0 : copies_Commit_l1 (dks ds n) (q : Int) x (N + 1) s i = copies_Commit_l1_b (dks ds n) (q : Int) x (copies_Commit_l1 (dks ds n) (q : Int) x N) s i := rfl
    rw [e0]
    unfold copies_Commit_l1_b
    rw [dks_len]
    by_cases hlt : i < ds.length
    · rw [if_pos (by omega), dks_getD hlt]
      have hmul : (ds.length - i) * (L + 1) = (L + 1) + (ds.length - (i + 1)) * (L + 1) := by
        rw [show ds.length - i = (ds.length - (i + 1)) + 1 by omega, Nat.add_mul, Nat.one_mul, Nat.add_comm]
      have hLd := hl _ (hin i hlt)
      rcases prep_hold hLd (by omega) (h0 _ (hin i hlt)) hq hx with ⟨h2, _⟩ | ⟨_, ⟨t, h2, h3, h4, h5, h6⟩ | ⟨hf, _, t, h2, h3⟩⟩
      · have := hfit i hlt; omega
      · rw [h2]; simp only [Option.bind_some]
        rw [if_neg (by simp)]
        rw [hL] at h4
        have hoth : ∀ e, ds.getD i 0 ≠ e → e < ns.length → Lv ns (K + L + 1) e n t ∧ now t e = now s e := fun e hne he => by
          have := h3.other hne (hl e he) (by omega)
          rw [hL] at this; exact this
        have ih := commitF_l1 hx hq hL hd hin hfit hmq hKK N (i + 1) (K + L + 1) t (by omega) (by omega) (by omega) (fun e he => by
          by_cases hne : ds.getD i 0 = e
          · rw [← hne]; exact h4
          · exact (hoth e hne he).1) (fun e he => by
          by_cases hne : ds.getD i 0 = e
          · rw [← hne]; exact h5
          · rw [(hoth e hne he).2]; exact h0 e he) (fun e he => by
          by_cases hne : ds.getD i 0 = e
          · rw [← hne]
            show V _ (dQ (now t (ds.getD i 0) 1)).toNat
            rw [h6.dS.2.2]; exact hmq i hlt
          · show V _ (dQ (now t e 1)).toNat
            rw [(hoth e hne he).2]; exact hm e he) (fun j hj => by
          rcases Nat.lt_or_ge j i with hji | hji
          · have hne := hd j i hji hlt
            rw [(hoth _ (fun e => hne e.symm) (hin j (by omega))).2]
            exact h1 j hji
          · have : j = i := by omega
            rw [this]; exact h6)
        rcases ih with ⟨u, u1, u2, u3, u4, u5, u6, u7⟩ | ⟨hf, u, u1, u2⟩
        · refine .inl ⟨u, u1, fun e he => ?_, fun hf => u3 (by rw [h3.fuse, hf]; omega), u4, u5, u6, fun e he => ?_⟩
          · have := u2 e he
            rw [show K + (ds.length - i) * (L + 1) = K + L + 1 + (ds.length - (i + 1)) * (L + 1) by omega]
            exact this
          · rw [u7 e (fun j hj hjl => he j (by omega) hjl)]
            funext b
            rw [h3.now, if_neg (he i (Nat.le_refl _) hlt)]
        · exact .inr ⟨fun hf0 => hf (by rw [h3.fuse, hf0]; omega), u, u1, u2⟩
      · rw [h2]; simp only [Option.bind_some]
        rw [if_pos (by simp)]
        refine .inr ⟨hf, t, rfl, ?_⟩
        rw [hL] at h3
        refine aft_of (h3.ok.mono (by omega)) (fun e he => by rw [h3.miss]; exact (hl e he).ms) (fun e he => (hl e he).hn) hLd.h4 hLd.hb (by omega) (fun e => now s e) (fun e he => ⟨h0 e he, hm e he⟩) (fun e => if e = ds.getD i 0 then L else 0) (fun e he => ?_) (fun e he b hb hj => ?_)
        · show (if e = ds.getD i 0 then L else 0) + _ ≤ _
          split
          · rename_i hh; rw [hh]; exact hfit i hlt
          · have := (h0 e he).len; omega
        · rw [h3.cand e b he (by rw [(hl e he).hn]; exact hb) (fun hde j hjl => by
            have := hj j (by show j < (if e = ds.getD i 0 then L else 0); rw [if_pos hde.symm]; exact hjl)
            rw [← hde] at this; exact this)]
          exact (hl e he).cl b hb
    · rw [if_neg (by omega)]
      have e : i = ds.length := by omega
      refine .inl ⟨s, rfl, fun e he => ?_, fun h => h, h0, hm, fun j hj => h1 j (by omega), fun _ _ => rfl⟩
      rw [show ds.length - i = 0 by omega, Nat.zero_mul]; exact hl e he
theorem commitF_l2 {ds : List Nat} {T : Nat → Txt} {V : Nat → Nat → Prop} {KK : Nat} (hd : Dist ds) (hin : ∀ i, i < ds.length → ds.getD i 0 < ns.length) (hKK : KK ≤ 700000) : ∀ (N i K : Nat) (s : ArrS) (c : Nat → Option Txt), ds.length - i < N → i ≤ ds.length → K + (ds.length - i) ≤ KK → (∀ e, e < ns.length → Lv ns K e n s) →
    (∀ e, e < ns.length → Hold (now s e) (rgR n) 0 (c e)) → (∀ e, e < ns.length → V e (w1 s e)) → (∀ j, j < ds.length → Hold (now s (ds.getD j 0)) (rgR n) 1 (some (T (ds.getD j 0)))) → (∀ j, j < i → c (ds.getD j 0) = some (T (ds.getD j 0))) →
    (∃ t, copies_Commit_l2 (dks ds n) N s i = some (.inl t) ∧ (∀ e, e < ns.length → Lv ns (K + (ds.length - i)) e n t) ∧ (s.fuse = 0 → t.fuse = 0) ∧ (∀ e, e < ns.length → V e (w1 t e)) ∧ (∀ j, j < ds.length → Hold (now t (ds.getD j 0)) (rgR n) 0 (some (T (ds.getD j 0))) ∧ Hold (now t (ds.getD j 0)) (rgR n) 1 (some (T (ds.getD j 0)))) ∧
      (∀ e, (∀ j, i ≤ j → j < ds.length → ds.getD j 0 ≠ e) → now t e = now s e)) ∨
    (s.fuse ≠ 0 ∧ ∃ t c', copies_Commit_l2 (dks ds n) N s i = some (.inr (true, 5, t)) ∧ (∀ e, c' e = c e ∨ ∃ j, j < ds.length ∧ ds.getD j 0 = e ∧ c' e = some (T e)) ∧ Aft ns KK n c' V t)
  | 0, _, _, _, _, h, _, _, _, _, _, _, _ => absurd h (by omega)
  | N + 1, i, K, s, c, h, hi, hK, hl, h0, hm, h1, hc => by
    have e0 : copies_Commit_l2 (dks ds n) (N + 1) s i = copies_Commit_l2_b (dks ds n) (copies_Commit_l2 (dks ds n) N) s i := rfl
    rw [e0]
    unfold copies_Commit_l2_b
    rw [dks_len]
    by_cases hlt : i < ds.length
    · rw [if_pos (by omega), dks_getD hlt]
      have hLd := hl _ (hin i hlt)
      rcases switch_hold hLd (by omega) (h1 i hlt) with ⟨_, t, h2, h3, h4, h5⟩ | ⟨hf, t, h2, h3⟩
      · rw [h2]; simp only [Option.bind_some]
        rw [if_neg (by simp)]
        have hoth : ∀ e, ds.getD i 0 ≠ e → e < ns.length → Lv ns (K + 1) e n t ∧ now t e = now s e := fun e hne he => h3.other hne (hl e he) (by omega)
        have hown : Hold (now t (ds.getD i 0)) (rgR n) 1 (some (T (ds.getD i 0))) := by
          refine (h1 i hlt).congr (by rw [h3.nowD]; rfl) fun k _ => ?_
          rw [h3.nowD]
          unfold upd
          rw [if_neg (by have := plc_ge (r := rgR n) (st := oSt (some (T (ds.getD i 0)))) (i := k); omega)]
        have ih := commitF_l2 (T := T) (V := V) hd hin hKK N (i + 1) (K + 1) t (fun e => if e = ds.getD i 0 then some (T e) else c e) (by omega) (by omega) (by omega) (fun e he => by
          by_cases hne : ds.getD i 0 = e
          · rw [← hne]; exact h4
          · exact (hoth e hne he).1) (fun e he => by
          show Hold _ _ 0 (if e = ds.getD i 0 then some (T e) else c e)
          by_cases hne : ds.getD i 0 = e
          · rw [if_pos hne.symm, ← hne]; exact h5
          · rw [if_neg (fun x => hne x.symm), (hoth e hne he).2]; exact h0 e he) (fun e he => by
          by_cases hne : ds.getD i 0 = e
          · show V _ (dQ (now t e 1)).toNat
            have h9 := hm e he
            rw [← hne] at h9 ⊢
            rw [hown.2.1, ← (h1 i hlt).2.1]; exact h9
          · show V _ (dQ (now t e 1)).toNat
            rw [(hoth e hne he).2]; exact hm e he) (fun j hj => by
          by_cases hne : ds.getD i 0 = ds.getD j 0
          · rw [← hne]; exact hown
          · rw [(hoth _ hne (hin j hj)).2]; exact h1 j hj) (fun j hj => by
          show (if ds.getD j 0 = ds.getD i 0 then some (T (ds.getD j 0)) else c (ds.getD j 0)) = _
          split
          · rfl
          · rename_i hne
            rcases Nat.lt_or_ge j i with hji | hji
            · exact hc j hji
            · exact absurd (by rw [show j = i by omega]) hne)
        rcases ih with ⟨u, u1, u2, u3, u4, u5, u6⟩ | ⟨hf, u, c', u1, u2, u3⟩
        · refine .inl ⟨u, u1, fun e he => ?_, fun hf => u3 (by rw [h3.fuse, hf]), u4, u5, fun e he => ?_⟩
          · have := u2 e he
            rw [show K + (ds.length - i) = K + 1 + (ds.length - (i + 1)) by omega]
            exact this
          · rw [u6 e (fun j hj hjl => he j (by omega) hjl)]
            funext b
            rw [h3.now, if_neg (fun x => he i (Nat.le_refl _) hlt x.1)]
        · refine .inr ⟨fun hf0 => hf (by rw [h3.fuse, hf0]), u, c', u1, fun e => ?_, u3⟩
          rcases u2 e with h9 | h9
          · rw [h9]
            by_cases hne : e = ds.getD i 0
            · rw [if_pos hne]; exact .inr ⟨i, hlt, hne.symm, rfl⟩
            · rw [if_neg hne]; exact .inl rfl
          · exact .inr h9
      · rw [h2]; simp only [Option.bind_some]
        rw [if_pos (by simp)]
        refine .inr ⟨by omega, t, c, rfl, fun e => .inl rfl, ?_⟩
        refine aft_of (h3.ok.mono (by omega)) (fun e he => by rw [h3.miss]; exact (hl e he).ms) (fun e he => (hl e he).hn) hLd.h4 hLd.hb (by omega) (fun e => now s e) (fun e he => ⟨h0 e he, hm e he⟩) (fun _ => 0) (fun e he => ?_) (fun e he b hb hj => ?_)
        · have := (h0 e he).len; show 0 + _ ≤ _; omega
        · rw [h3.cand]; exact (hl e he).cl b hb
    · rw [if_neg (by omega)]
      have hlen : i = ds.length := by omega
      refine .inl ⟨s, rfl, fun e he => ?_, fun h => h, hm, fun j hj => ⟨?_, h1 j hj⟩, fun _ _ => rfl⟩
      · rw [show ds.length - i = 0 by omega]; exact hl e he
      · rw [← hc j (by omega)]; exact h0 _ (hin j hj)
theorem commitF {ds : List Nat} {q K M : Nat} {x : ByteArray} {c : Nat → Option Txt} {m : Nat → Nat} {L KK : Nat} {s : ArrS} (hx : x.size ≤ 8192) (hq : 1 ≤ q ∧ q ≤ 1048575) (hL : (encT x).length = L) (hd : Dist ds) (hin : ∀ i, i < ds.length → ds.getD i 0 < ns.length) (h0 : ds.length ≠ 0) (h100 : ds.length ≤ 100)
    (hfit : ∀ i, i < ds.length → L + oLen (c (ds.getD i 0)) ≤ rgR n) (hmq : ∀ i, i < ds.length → m (ds.getD i 0) ≤ q) (hqM : q ≤ M) (hKK : KK ≤ 700000) (hK : K + ds.length * (L + 2) ≤ KK) (hl : ∀ e, e < ns.length → Lv ns K e n s) (hh : ∀ e, e < ns.length → Hold (now s e) (rgR n) 0 (c e)) (hm : ∀ e, e < ns.length → m e ≤ w1 s e ∧ w1 s e ≤ M) :
    (∃ t, copies_Commit (dks ds n) (q : Int) x s = some (true, 0, t) ∧ (∀ e, e < ns.length → Lv ns KK e n t) ∧ (s.fuse = 0 → t.fuse = 0) ∧ (∀ e, e < ns.length → m e ≤ w1 t e ∧ w1 t e ≤ M) ∧
      (∀ j, j < ds.length → Hold (now t (ds.getD j 0)) (rgR n) 0 (some ⟨q, nextSt (rgR n) (c (ds.getD j 0)), x⟩) ∧ Hold (now t (ds.getD j 0)) (rgR n) 1 (some ⟨q, nextSt (rgR n) (c (ds.getD j 0)), x⟩)) ∧
      (∀ e, (∀ j, j < ds.length → ds.getD j 0 ≠ e) → now t e = now s e)) ∨
    (s.fuse ≠ 0 ∧ ∃ (sw : Bool) (t : ArrS) (c' : Nat → Option Txt) (m' : Nat → Nat), copies_Commit (dks ds n) (q : Int) x s = some (sw, 5, t) ∧ Aft ns KK n c' (fun e w => m' e ≤ w ∧ w ≤ M) t ∧ (∀ e, e < ns.length → m e ≤ m' e) ∧ (∀ e, c' e = c e ∨ ((∃ j, j < ds.length ∧ ds.getD j 0 = e) ∧ c' e = some ⟨q, nextSt (rgR n) (c e), x⟩ ∧ ∀ j, j < ds.length → q ≤ m' (ds.getD j 0)))) := by
  unfold copies_Commit
  rw [dks_len, if_neg (by omega)]
  have hF := fuel_big
  generalize FUEL = N at hF ⊢
  have hE := encT_lt hx
  have hb : ds.length * (L + 1) + ds.length = ds.length * (L + 2) := by rw [← Nat.mul_succ]
  rcases commitF_l1 (ns := ns) (n := n) (V := fun e w => m e ≤ w ∧ w ≤ M) hx hq hL hd hin hfit (fun i hi => ⟨hmq i hi, hqM⟩) hKK N 0 K s (by omega) (by omega) (by simp only [Nat.sub_zero]; omega) hl hh hm (fun j hj => absurd hj (by omega)) with ⟨t, t1, t2, t3, t4, t5, t6, t7⟩ | ⟨hf, t, t1, t2⟩
  · rw [t1]
    simp only [seqO, Option.bind_some, Sum.elim_inl]
    simp only [Nat.sub_zero] at t2
    have hq1 : ∀ j, j < ds.length → w1 t (ds.getD j 0) = q := fun j hj => (t6 j hj).dS.2.2
    rcases commitF_l2 (ns := ns) (n := n) (ds := ds) (T := fun d => ⟨q, nextSt (rgR n) (c d), x⟩) (V := fun e w => w1 t e ≤ w ∧ w ≤ M) hd hin hKK N 0 _ t c (by omega) (by omega) (by simp only [Nat.sub_zero]; omega) t2 t4 (fun e he => ⟨Nat.le_refl _, (t5 e he).2⟩) t6 (fun j hj => absurd hj (by omega)) with ⟨u, u1, u2, u3, u4, u5, u6⟩ | ⟨hf, u, c', u1, u2, u3⟩
    · rw [u1]
      simp only [Option.bind_some, Sum.elim_inl]
      simp only [Nat.sub_zero] at u2
      exact .inl ⟨u, rfl, fun e he => (u2 e he).mono (by omega) (by omega), fun h => u3 (t3 h), fun e he => ⟨Nat.le_trans (t5 e he).1 (u4 e he).1, (u4 e he).2⟩, u5, fun e he => by rw [u6 e (fun j _ hj => he j hj), t7 e (fun j _ hj => he j hj)]⟩
    · rw [u1]
      simp only [Option.bind_some, Sum.elim_inr]
      refine .inr ⟨fun h => hf (t3 h), true, u, c', fun e => w1 t e, rfl, u3, fun e he => (t5 e he).1, fun e => ?_⟩
      rcases u2 e with h9 | ⟨j, h8, h9, h10⟩
      · exact .inl h9
      · exact .inr ⟨⟨j, h8, h9⟩, h10, fun j hj => Nat.le_of_eq (hq1 j hj).symm⟩
  · rw [t1]
    simp only [seqO, Option.bind_some, Sum.elim_inr]
    exact .inr ⟨hf, false, t, c, m, rfl, t2, fun _ _ => Nat.le_refl _, fun e => .inl rfl⟩
theorem great_fold {s : ArrS} {g : Nat} : ∀ (ds : List Nat) (a : Int), a ≤ (g : Int) → (∀ d, d ∈ ds → (dQ (now s d 0)).toNat ≤ g ∧ w1 s d ≤ g) →
    a ≤ ds.foldl (fun m d => max m (max ((dQ (now s d 0)).toNat : Int) ((dQ (now s d 1)).toNat : Int))) a ∧ ds.foldl (fun m d => max m (max ((dQ (now s d 0)).toNat : Int) ((dQ (now s d 1)).toNat : Int))) a ≤ (g : Int) ∧
      ∀ d, d ∈ ds → ((dQ (now s d 0)).toNat : Int) ≤ ds.foldl (fun m d => max m (max ((dQ (now s d 0)).toNat : Int) ((dQ (now s d 1)).toNat : Int))) a ∧ (w1 s d : Int) ≤ ds.foldl (fun m d => max m (max ((dQ (now s d 0)).toNat : Int) ((dQ (now s d 1)).toNat : Int))) a
  | [], a, ha, _ => ⟨Int.le_refl _, ha, fun d h => nomatch h⟩
  | d :: ds, a, ha, h => by
    have h4 := h d (by simp)
    have h5 : w1 s d = (dQ (now s d 1)).toNat := rfl
    obtain ⟨h1, h2, h3⟩ := great_fold ds (max a (max ((dQ (now s d 0)).toNat : Int) ((dQ (now s d 1)).toNat : Int))) (by omega) (fun e he => h e (List.mem_cons_of_mem _ he))
    rw [List.foldl_cons]
    refine ⟨by omega, h2, fun e he => ?_⟩
    rcases List.mem_cons.1 he with he | he
    · rw [he]; omega
    · exact h3 e he
theorem greatR_spec {s : ArrS} {g : Nat} (ds : List Nat) (h : ∀ d, d ∈ ds → (dQ (now s d 0)).toNat ≤ g ∧ w1 s d ≤ g) : 0 ≤ greatR s ds ∧ greatR s ds ≤ (g : Int) ∧ ∀ d, d ∈ ds → ((dQ (now s d 0)).toNat : Int) ≤ greatR s ds ∧ (w1 s d : Int) ≤ greatR s ds :=
  great_fold ds 0 (by omega) h
section
variable {K : Nat} {s : ArrS} {ds : List Nat}
theorem set1_eq {e : Int} {v : Bool} {q : Int} {x : ByteArray} : copies_Settle_1 e v q x = some (if e ≠ 0 then (false, 0, ByteArray.empty) else (v, q, x)) := by
  unfold copies_Settle_1
  split <;> rfl
theorem settle_go {s' : ArrS} (hl : ∀ i, i < ds.length → Lv ns K (ds.getD i 0) n s) (h100 : ds.length ≤ 1000) {k : Nat} (hc : copies_Choose (copiesR s n ds) = some ((k : Int), 0)) (hk : k < ds.length) (h0 : 0 ≤ greatR s ds) (hg : greatR s ds < (1048575 : Int))
    (hlo : copies_Settle_l1 (dks ds n) FUEL s 0 = some (.inl s')) {r : Bool × Int × ArrS} (hr : copies_Commit (dks ds n) (greatR s ds + 1) ((copiesR s n ds).getD k zC).Text s' = some r) :
    copies_Settle (dks ds n) s = some (if r.2.1 ≠ 0 then zC else ⟨true, greatR s ds + 1, ((copiesR s n ds).getD k zC).Text⟩, r.2.1, r.2.2) := by
  unfold copies_Settle
  rw [scan_eq hl h100]; simp only [Option.bind_some]
  rw [if_neg (by simp), hc]; simp only [Option.bind_some]
  rw [if_neg (by decide)]
  unfold copies_Next
  rw [if_neg (by omega), if_neg (by omega)]; simp only [Option.bind_some]
  have hkl : k < (copiesR s n ds).length := by simp [copiesR, hk]
  rw [if_neg (by decide), hlo]
  simp only [seqO, Option.bind_some, Sum.elim_inl]
  rw [grd_pos (decide_eq_true (by omega)), Int.toNat_natCast, show copies_Commit (dks ds n) (greatR s ds + 1) ((copiesR s n ds).getD k (⟨false, 0, ByteArray.empty⟩ : api_Copy)).Text s' = _ from hr]; simp only [Option.bind_some]
  rw [grd_pos (decide_eq_true (by omega)), set1_eq]; simp only [Option.bind_some]
  split <;> rfl
theorem settle_skip {c : Nat → Option Txt} (hl : ∀ i, i < ds.length → Lv ns K (ds.getD i 0) n s) (hh : ∀ i, i < ds.length → Hold (now s (ds.getD i 0)) (rgR n) 0 (c (ds.getD i 0))) : ∀ (N i : Nat), ds.length - i < N → copies_Settle_l1 (dks ds n) N s i = some (.inl s)
  | 0, _, h => absurd h (by omega)
  | N + 1, i, h => by
    show copies_Settle_l1_b _ _ _ _ = _
    unfold copies_Settle_l1_b
    rw [dks_len]
    by_cases hlt : i < ds.length
    · rw [if_pos (by omega), dks_getD hlt, look_eq (hl i hlt)]; simp only [Option.bind_some]
      have h1 : (foundR (now s (ds.getD i 0)) (rgR n)).error ≠ 11 := by
        have h2 := hh i hlt
        show (readR (now s (ds.getD i 0)) (rgR n)).2 ≠ 11
        unfold readR
        cases hc : c (ds.getD i 0) with
        | none => rw [hc] at h2; rw [if_pos (show now s (ds.getD i 0) 0 = 0 from h2)]; decide
        | some t => rw [hc] at h2; rw [if_neg (fun x => nomatch h2.ne.1 x), h2.whole, if_pos rfl]; exact (by decide : (0 : Int) ≠ 11)
      rw [if_neg h1]
      exact settle_skip hl hh N (i + 1) (by omega)
    · rw [if_neg (by omega)]
end
end
end Go.Proofs
namespace Go.Proofs
open Go.VG
theorem read_txt {A : Nat → UInt64} {r : Nat} {t : Txt} (hh : Hold A r 0 (some t)) : (readR A r).1 = ⟨true, (t.q : Int), t.s⟩ := by
  unfold readR
  rw [if_neg (fun x => nomatch hh.ne.1 x), hh.whole, if_pos rfl, hh.dS.2.2]
structure HI (ns : List Nat) (K n M : Nat) (s : ArrS) (c : Nat → Txt) : Prop where
  lv : ∀ e, e < ns.length → Lv ns K e n s
  hold : ∀ e, e < ns.length → Hold (now s e) (rgR n) 0 (some (c e))
  low : ∀ e, e < ns.length → (c e).q ≤ w1 s e
  hi : ∀ e, e < ns.length → w1 s e ≤ M
  sz : ∀ e, e < ns.length → (c e).s.size ≤ 8
  un : ∀ e f, e < ns.length → f < ns.length → (c e).q = (c f).q → (c e).s = (c f).s
def In (ds : List Nat) (e : Nat) : Prop := ∃ j, j < ds.length ∧ ds.getD j 0 = e
theorem enc8 {x : ByteArray} (h : x.size ≤ 8) : (encT x).length ≤ 2 := by rw [encT_len]; unfold bytesN; omega
section
variable {ns : List Nat} {K n M g KK : Nat} {s : ArrS} {c : Nat → Txt} {ds : List Nat} {x : ByteArray}
theorem HI.fuse (h : HI ns K n M s c) {f : Nat} : HI ns K n M { s with fuse := f } c := ⟨fun e he => (h.lv e he).fuse, h.hold, h.low, h.hi, h.sz, h.un⟩
theorem HI.mono {K' M' : Nat} (h : HI ns K n M s c) (hK : K ≤ K') (h9 : K' ≤ 900000) (hM : M ≤ M') : HI ns K' n M' s c := ⟨fun e he => (h.lv e he).mono hK h9, h.hold, h.low, fun e he => Nat.le_trans (h.hi e he) hM, h.sz, h.un⟩
theorem HI.q0 (h : HI ns K n M s c) {e : Nat} (he : e < ns.length) : (dQ (now s e 0)).toNat = (c e).q := (h.hold e he).dS.2.2
theorem HI.great (h : HI ns K n M s c) (hin : ∀ i, i < ds.length → ds.getD i 0 < ns.length) : ∃ g : Nat, greatR s ds = (g : Int) ∧ g ≤ M ∧ ∀ j, j < ds.length → w1 s (ds.getD j 0) ≤ g := by
  have hmem : ∀ d, d ∈ ds → ∃ i, i < ds.length ∧ ds.getD i 0 = d := fun d hd => by
    obtain ⟨i, hi, e⟩ := List.getElem_of_mem hd
    exact ⟨i, hi, by simp [List.getD_eq_getElem?_getD, hi, e]⟩
  obtain ⟨h1, h2, h3⟩ := greatR_spec (s := s) (g := M) ds (fun d hd => by
    obtain ⟨i, hi, e⟩ := hmem d hd
    have hd' : d < ns.length := by rw [← e]; exact hin i hi
    rw [h.q0 hd']
    have := h.low d hd'; have := h.hi d hd'
    omega)
  refine ⟨(greatR s ds).toNat, by omega, by omega, fun j hj => ?_⟩
  have := (h3 (ds.getD j 0) (by rw [show ds.getD j 0 = ds[j] by simp [List.getD_eq_getElem?_getD, hj]]; exact List.getElem_mem hj)).2
  omega
theorem HI.commit (h : HI ns K n M s c) (hd : Dist ds) (hin : ∀ i, i < ds.length → ds.getD i 0 < ns.length) (h0 : ds.length ≠ 0) (h8 : ds.length ≤ 8) (hx : x.size ≤ 8) (hr : 4 ≤ rgR n) (hM : M < 1048575) (hKK : KK ≤ 700000) (hK : K + 32 ≤ KK)
    (hg : greatR s ds = (g : Int)) (cov : ∀ e, e < ns.length → (c e).q ≤ g) :
    (∃ (t : ArrS) (c' : Nat → Txt), copies_Commit (dks ds n) (greatR s ds + 1) x s = some (true, 0, t) ∧ HI ns KK n (M + 1) t c' ∧ (s.fuse = 0 → t.fuse = 0) ∧ (∀ e, e < ns.length → w1 s e ≤ w1 t e) ∧ (∀ e, In ds e → (c' e).q = g + 1 ∧ (c' e).s = x ∧ w1 t e = g + 1) ∧ (∀ e, ¬ In ds e → c' e = c e)) ∨
    (s.fuse ≠ 0 ∧ ∃ (sw : Bool) (t : ArrS) (c' : Nat → Txt) (m' : Nat → Nat), copies_Commit (dks ds n) (greatR s ds + 1) x s = some (sw, 5, t) ∧ t.writes ≤ KK ∧ (∀ (f : Nat) (ks : List Bool), HI ns KK n (M + 1) (rsS { t with fuse := f } ks) c' ∧ ∀ e, e < ns.length → m' e ≤ w1 (rsS { t with fuse := f } ks) e) ∧ (∀ e, e < ns.length → w1 s e ≤ m' e) ∧
      (∀ e, c' e = c e ∨ (In ds e ∧ (c' e).q = g + 1 ∧ (c' e).s = x ∧ ∀ j, j < ds.length → g + 1 ≤ m' (ds.getD j 0)))) := by
  obtain ⟨g', hg', hgM, hgw⟩ := h.great hin
  have hgg : g' = g := by omega
  subst hgg
  have hL := enc8 hx
  have ho : ∀ e, e < ns.length → oLen (some (c e)) ≤ 2 := fun e he => enc8 (h.sz e he)
  have hmul : ds.length * ((encT x).length + 2) ≤ 8 * 4 := Nat.mul_le_mul h8 (by omega)
  rw [show greatR s ds + 1 = ((g' + 1 : Nat) : Int) by omega]
  rcases commitF (ns := ns) (n := n) (s := s) (ds := ds) (q := g' + 1) (K := K) (M := M + 1) (x := x) (c := fun e => some (c e)) (m := fun e => w1 s e) (KK := KK) (by omega) (by omega) rfl hd hin h0 (by omega) (fun i hi => by have := ho _ (hin i hi); omega) (fun i hi => by have := hgw i hi; omega) (by omega) hKK (by omega) h.lv h.hold (fun e he => ⟨Nat.le_refl _, by have := h.hi e he; omega⟩) with
    ⟨t, t1, t2, t3, t4, t5, t6⟩ | ⟨hf, sw, t, c', m', t1, t2, t3, t4⟩
  · classical
    refine .inl ⟨t, fun e => if In ds e then ⟨g' + 1, nextSt (rgR n) (some (c e)), x⟩ else c e, t1, ?_, t3, fun e he => (t4 e he).1, fun e he => ?_, fun e he => if_neg he⟩
    · have hH : ∀ e, e < ns.length → Hold (now t e) (rgR n) 0 (some (if In ds e then ⟨g' + 1, nextSt (rgR n) (some (c e)), x⟩ else c e)) := fun e he => by
        by_cases hi : In ds e
        · rw [if_pos hi]
          obtain ⟨j, hj, hje⟩ := hi
          have := (t5 j hj).1
          rw [hje] at this; exact this
        · rw [if_neg hi, t6 e (fun j hj hje => hi ⟨j, hj, hje⟩)]; exact h.hold e he
      refine ⟨t2, hH, fun e he => ?_, fun e he => (t4 e he).2, fun e he => ?_, fun e f he hf => ?_⟩
      · by_cases hi : In ds e
        · rw [if_pos hi]
          obtain ⟨j, hj, hje⟩ := hi
          have := (t5 j hj).2.dS.2.2
          rw [hje] at this
          exact Nat.le_of_eq this.symm
        · rw [if_neg hi]; exact Nat.le_trans (h.low e he) (t4 e he).1
      · by_cases hi : In ds e
        · rw [if_pos hi]; exact hx
        · rw [if_neg hi]; exact h.sz e he
      · have c1 := cov e he; have c2 := cov f hf
        by_cases hi : In ds e
        · by_cases hj : In ds f
          · rw [if_pos hi, if_pos hj]; exact fun _ => rfl
          · rw [if_pos hi, if_neg hj]; intro hq; exact absurd hq (by show ¬ g' + 1 = (c f).q; omega)
        · by_cases hj : In ds f
          · rw [if_neg hi, if_pos hj]; intro hq; exact absurd hq (by show ¬ (c e).q = g' + 1; omega)
          · rw [if_neg hi, if_neg hj]; exact h.un e f he hf
    · show (if In ds e then _ else _ : Txt).q = _ ∧ (if In ds e then _ else _ : Txt).s = _ ∧ _
      rw [if_pos he]
      obtain ⟨j, hj, hje⟩ := he
      have := (t5 j hj).2.dS.2.2
      rw [hje] at this
      exact ⟨rfl, rfl, this⟩
  · refine .inr ⟨hf, sw, t, fun e => (c' e).getD (c e), m', t1, t2.1, ?_, t3, ?_⟩
    · have hc : ∀ e, c' e = some ((c' e).getD (c e)) := fun e => by
        rcases t4 e with h9 | ⟨_, h9, _⟩ <;> rw [h9] <;> rfl
      have hd' : ∀ e, ((c' e).getD (c e) = c e) ∨ (In ds e ∧ (c' e).getD (c e) = ⟨g' + 1, nextSt (rgR n) (some (c e)), x⟩ ∧ ∀ j, j < ds.length → g' + 1 ≤ m' (ds.getD j 0)) := fun e => by
        rcases t4 e with h9 | ⟨h8, h9, h10⟩
        · exact .inl (by rw [h9]; rfl)
        · exact .inr ⟨h8, by rw [h9]; rfl, h10⟩
      intro f ks
      refine ⟨⟨fun e he => (t2.2 f ks e he).1, fun e he => ?_, fun e he => ?_, fun e he => (t2.2 f ks e he).2.2.2, fun e he => ?_, fun e e2 he he2 => ?_⟩, fun e he => (t2.2 f ks e he).2.2.1⟩
      · rw [← hc e]; exact (t2.2 f ks e he).2.1
      · have hw := (t2.2 f ks e he).2.2.1
        rcases hd' e with h9 | ⟨⟨j, hj, hje⟩, h9, h10⟩
        · rw [h9]; exact Nat.le_trans (h.low e he) (Nat.le_trans (t3 e he) hw)
        · rw [h9]
          have := h10 j hj
          rw [hje] at this
          exact Nat.le_trans this hw
      · rcases hd' e with h9 | ⟨_, h9, _⟩
        · rw [h9]; exact h.sz e he
        · rw [h9]; exact hx
      · have c1 := cov e he; have c2 := cov e2 he2
        rcases hd' e with h9 | ⟨_, h9, _⟩ <;> rcases hd' e2 with h8' | ⟨_, h8', _⟩ <;> rw [h9, h8']
        · exact h.un e e2 he he2
        · intro hq; exact absurd hq (by show ¬ (c e).q = g' + 1; omega)
        · intro hq; exact absurd hq (by show ¬ g' + 1 = (c e2).q; omega)
        · exact fun _ => rfl
    · intro e
      rcases t4 e with h9 | ⟨h8, h9, h10⟩
      · exact .inl (by show (c' e).getD _ = _; rw [h9]; rfl)
      · refine .inr ⟨h8, ?_, ?_, h10⟩
        · show ((c' e).getD _).q = _; rw [h9]; rfl
        · show ((c' e).getD _).s = _; rw [h9]; rfl
theorem HI.copies (h : HI ns K n M s c) (hin : ∀ i, i < ds.length → ds.getD i 0 < ns.length) {i : Nat} (hi : i < ds.length) : (copiesR s n ds).getD i zC = ⟨true, ((c (ds.getD i 0)).q : Int), (c (ds.getD i 0)).s⟩ := by
  have : (copiesR s n ds).getD i zC = (readR (now s (ds.getD i 0)) (rgR n)).1 := by
    simp [copiesR, List.getD_eq_getElem?_getD, hi]
  rw [this, read_txt (h.hold _ (hin i hi))]
theorem HI.settle (h : HI ns K n M s c) (hin : ∀ i, i < ds.length → ds.getD i 0 < ns.length) (h0 : ds.length ≠ 0) (h8 : ds.length ≤ 8) (hM : M < 1048575) (hg : greatR s ds = (g : Int)) :
    ∃ k, k < ds.length ∧ (∀ j, j < ds.length → (c (ds.getD j 0)).q ≤ (c (ds.getD k 0)).q) ∧ ∀ r, copies_Commit (dks ds n) (greatR s ds + 1) (c (ds.getD k 0)).s s = some r →
      copies_Settle (dks ds n) s = some (if r.2.1 ≠ 0 then zC else ⟨true, ((g + 1 : Nat) : Int), (c (ds.getD k 0)).s⟩, r.2.1, r.2.2) := by
  have hcl : (copiesR s n ds).length = ds.length := by simp [copiesR]
  obtain ⟨g', hg', hgM, hgw⟩ := h.great hin
  rcases choose_spec (copiesR s n ds) (by omega) with ⟨_, c2⟩ | ⟨k, k1, k2, k3, ⟨_, j, j1, j2⟩ | ⟨c1, _⟩⟩
  · have := c2 0 (by omega)
    rw [h.copies hin (by omega)] at this; cases this
  · rw [hcl] at j1 k1
    unfold Clash at j2
    rw [h.copies hin j1, h.copies hin k1] at j2
    have e1 : (c (ds.getD j 0)).q = (c (ds.getD k 0)).q := by have := j2.2.1; simp only at this; omega
    exact absurd (h.un _ _ (hin j j1) (hin k k1) e1) j2.2.2
  · rw [hcl] at k1
    refine ⟨k, k1, fun j hj => ?_, fun r hr => ?_⟩
    · have := k3 j (by omega)
      rw [h.copies hin hj, h.copies hin k1] at this
      have := this rfl
      simp only at this; omega
    · have := settle_go (r := r) (s' := s) (fun i hi => h.lv _ (hin i hi)) (by omega) c1 k1 (by omega) (by omega) (settle_skip (c := fun e => some (c e)) (fun i hi => h.lv _ (hin i hi)) (fun i hi => h.hold _ (hin i hi)) FUEL 0 (by have := fuel_big; omega)) (by rw [h.copies hin k1]; exact hr)
      rw [this, h.copies hin k1, hg]; rfl
theorem HI.rs (h : HI ns K n M s c) (h0 : 0 < ns.length) (ks : List Bool) : HI ns K n M (rsS s ks) c := by
  have hl := h.lv 0 h0
  have A := aft_of (ns := ns) (n := n) (c := fun e => some (c e)) (V := fun e w => w = w1 s e) hl.ok (fun e he => (h.lv e he).ms) (fun e he => (h.lv e he).hn) hl.h4 hl.hb hl.hK (fun e => now s e) (fun e he => ⟨h.hold e he, rfl⟩) (fun _ => 0) (fun e he => by have := (h.hold e he).len; show 0 + _ ≤ _; omega) (fun e he b hb _ => (h.lv e he).cl b hb)
  have R := A.rs ks
  exact ⟨fun e he => (R e he).1, fun e he => (R e he).2.1, fun e he => by rw [(R e he).2.2]; exact h.low e he, fun e he => by rw [(R e he).2.2]; exact h.hi e he, h.sz, h.un⟩
end
theorem range_getD {m i : Nat} (h : i < m) : (List.range m).getD i 0 = i := by simp [List.getD_eq_getElem?_getD, h]
theorem range_dist (m : Nat) : Dist (List.range m) := fun i j h1 h2 => by
  have hj : j < m := by simpa using h2
  rw [range_getD (show i < m by omega), range_getD hj]; omega
theorem start_ok {m n : Nat} {x : ByteArray} (hm : 1 ≤ m ∧ m ≤ 8) (hn : 6 ≤ n ∧ n ≤ 1000) (hx : x.size ≤ 8) :
    ∃ t c, copies_Commit (dks (List.range m) n) 1 x (mkS (List.replicate m (List.replicate n 0))) = some (true, 0, t) ∧ HI (List.replicate m n) 40 n 1 t c ∧ t.fuse = 0 ∧ ∀ e, e < m → (c e).q = 1 ∧ (c e).s = x ∧ w1 t e = 1 := by
  obtain ⟨r1, r2, r3⟩ := rg_le (n := n) (by omega) (by omega)
  have hL := enc8 hx
  have hr : m * ((encT x).length + 1) ≤ 8 * 3 := Nat.mul_le_mul hm.2 (by omega)
  obtain ⟨t, t1, t2, t3, t4, -⟩ := commit_ok (ns := List.replicate m n) (n := n) (K := 0) (ds := List.range m) (q := 1) (x := x) (c := fun _ => none) (s := mkS (List.replicate m (List.replicate n 0))) (by omega) (by omega) rfl (range_dist m) (fun i hi => by
    have hi' : i < m := by simpa using hi
    rw [range_getD hi']; simpa using hi') (by simp; omega) (by simp; omega) (fun i _ => by show _ + 0 ≤ _; omega) (by omega) (fun e he => lvA_mkS (by simpa using he) (by omega)) rfl (fun e _ => by show now _ e 0 = 0; exact now0A)
  have hh : ∀ e, e < m → Hold (now t e) (rgR n) 0 (some ⟨1, nextSt (rgR n) none, x⟩) ∧ Hold (now t e) (rgR n) 1 (some ⟨1, nextSt (rgR n) none, x⟩) := fun e he => by
    have := t4 e (by simpa using he)
    rw [range_getD he] at this; exact this
  have hw : ∀ e, e < m → w1 t e = 1 := fun e he => (hh e he).2.dS.2.2
  refine ⟨t, fun _ => ⟨1, nextSt (rgR n) none, x⟩, t1, ⟨fun e he => (t2 e he).mono (by simp; omega) (by omega), fun e he => (hh e (by simpa using he)).1, fun e he => by rw [hw e (by simpa using he)]; exact Nat.le_refl _, fun e he => by rw [hw e (by simpa using he)]; exact Nat.le_refl _, fun _ _ => hx, fun _ _ _ _ _ => rfl⟩, t3, fun e he => ⟨rfl, rfl, hw e he⟩⟩
end Go.Proofs
set_option linter.unusedSimpArgs false
set_option linter.unusedVariables false
set_option maxRecDepth 20000
set_option maxHeartbeats 4000000
namespace Go.Proofs
open Go.VG
@[ext] structure volumegrouplaw13_Try where
  Bits : UInt8
  Fuse : UInt8
  Settle : Bool
  Keep : UInt64
  deriving DecidableEq
abbrev tyvolumegrouplaw13_Try : Ty volumegrouplaw13_Try := { T := 90, sz := 4, enc := fun x => [.int .u8 (x.Bits.toNat : Int), .int .u8 (x.Fuse.toNat : Int), .bool x.Settle, .int .u64 (x.Keep.toNat : Int)], dflt := ⟨0, 0, false, 0⟩, len := fun _ => rfl, one := fun _ => rfl, pos := by decide }
theorem bs_43_6_0_1_2_3_4_5 (v0 : ByteArray) (v1 : ByteArray) (v2 : ByteArray) (v3 : ByteArray) (v4 : ByteArray) (v5 : ByteArray) : BuildsSlice Try.prog 43 6 [(0, .string v0), (1, .string v1), (2, .string v2), (3, .string v3), (4, .string v4), (5, .string v5)] 9 [.string v0, .string v1, .string v2, .string v3, .string v4, .string v5] := fun w => by kernel_rfl
def volumegrouplaw13_CopiesAgree_l1_b (l : List volumegrouplaw13_Try) (rec : ArrS → Nat → Option ((ArrS) ⊕ Bool)) (x23 : ArrS) (x24 : Nat) : Option ((ArrS) ⊕ Bool) :=
  if (((x24 : Nat) : Int) < ((l.length : Nat) : Int)) then
    Option.bind (volumegrouplaw13_some x23 (7 : Int)) fun r25 =>
    Option.bind (copies_Scan r25 x23) fun r31 =>
    lt (((((l.getD x24 (⟨0, 0, false, 0⟩ : volumegrouplaw13_Try))).Fuse % (40 : UInt8))).toNat) fun w36 =>
    grd (inI64 (((w36 : Nat) : Int))) <|
    grd (inI64 ((r31.2.2 + (1 : Int)))) <|
    grd (decide (x24 < ([(ByteArray.mk #[97]), (ByteArray.mk #[98, 98]), (ByteArray.mk #[99, 99, 99]), (ByteArray.mk #[100, 100, 100, 100]), (ByteArray.mk #[101, 101, 101, 101, 101]), (ByteArray.mk #[102, 102, 102, 102, 102, 102])]).length)) <|
    Option.bind (volumegrouplaw13_some ({ x23 with fuse := (((w36 : Nat) : Int)).toNat }) (7 : Int)) fun r77 =>
    Option.bind (copies_Commit r77 ((r31.2.2 + (1 : Int))) ((([(ByteArray.mk #[97]), (ByteArray.mk #[98, 98]), (ByteArray.mk #[99, 99, 99]), (ByteArray.mk #[100, 100, 100, 100]), (ByteArray.mk #[101, 101, 101, 101, 101]), (ByteArray.mk #[102, 102, 102, 102, 102, 102])]).getD x24 ByteArray.empty)) ({ x23 with fuse := (((w36 : Nat) : Int)).toNat })) fun r357 =>
    if (r357.2.1 ≠ (0 : Int)) then
      if (r357.2.1 ≠ (5 : Int)) then
        some (.inr false)
      else
        Option.bind (volumegroupmake_Keep (((l.getD x24 (⟨0, 0, false, 0⟩ : volumegrouplaw13_Try))).Keep)) fun r597 =>
        grd (inLen r357.2.2.writes) <|
        grd (inI64 (0 : Int)) <|
        rec ({ (rsS r357.2.2 r597) with fuse := ((0 : Int)).toNat }) (x24 + 1)
    else
      grd (inI64 (0 : Int)) <|
      rec ({ r357.2.2 with fuse := ((0 : Int)).toNat }) (x24 + 1)
  else
    some (.inl x23)
def volumegrouplaw13_CopiesAgree_l1 (l : List volumegrouplaw13_Try) : Nat → ArrS → Nat → Option ((ArrS) ⊕ Bool)
  | 0, _, _ => none
  | n + 1, x23, x24 => volumegrouplaw13_CopiesAgree_l1_b l (volumegrouplaw13_CopiesAgree_l1 l n) x23 x24
def volumegrouplaw13_CopiesAgree_l2_b (r1009 : api_Copy × Int × ArrS) (r1012 : (List Bool)) (rec : Nat → Option ((Unit) ⊕ Bool)) (x1020 : Nat) : Option ((Unit) ⊕ Bool) :=
  if (((x1020 : Nat) : Int) < (8 : Int)) then
    Option.bind (volumegrouplaw13_some (rsS r1009.2.2 r1012) (((x1020 : Nat) : Int))) fun r1021 =>
    Option.bind (copies_Scan r1021 (rsS r1009.2.2 r1012)) fun r1027 =>
    Option.bind (copies_Choose r1027.1) fun r1032 =>
    if (r1032.2 ≠ (0 : Int)) then
      if true = true then
        some (.inr false)
      else
        grd (decide (0 < r1027.1.length)) <|
        if ((r1027.1.getD 0 (⟨false, 0, ByteArray.empty⟩ : api_Copy)) ≠ r1009.1) then
          some (.inr false)
        else
          rec (x1020 + 1)
    else
      if (r1032.1 ≠ (0 : Int)) then
        some (.inr false)
      else
        grd (decide (0 < r1027.1.length)) <|
        if ((r1027.1.getD 0 (⟨false, 0, ByteArray.empty⟩ : api_Copy)) ≠ r1009.1) then
          some (.inr false)
        else
          rec (x1020 + 1)
  else
    some (.inl ())
def volumegrouplaw13_CopiesAgree_l2 (r1009 : api_Copy × Int × ArrS) (r1012 : (List Bool)) : Nat → Nat → Option ((Unit) ⊕ Bool)
  | 0, _ => none
  | n + 1, x1020 => volumegrouplaw13_CopiesAgree_l2_b r1009 r1012 (volumegrouplaw13_CopiesAgree_l2 r1009 r1012 n) x1020
def volumegrouplaw13_CopiesAgree (l : List volumegrouplaw13_Try) (keep : UInt64) : Option (Bool) :=
  if ((6 : Int) < ((l.length : Nat) : Int)) then
    Option.bind (volumegrouplaw13_awake) fun r2 =>
    some r2
  else
    Option.bind (volumegrouplaw13_areas (3 : Int) (30 : Int)) fun r4 =>
    Option.elim r4 (
      some false) fun o9 =>
    Option.bind (volumegrouplaw13_some o9 (7 : Int)) fun r10 =>
    Option.bind (copies_Commit r10 (1 : Int) (ByteArray.mk #[102, 105, 114, 115, 116]) o9) fun r16 =>
    if (r16.2.1 ≠ (0 : Int)) then
      some false
    else
      seqO (volumegrouplaw13_CopiesAgree_l1 l FUEL r16.2.2 0) fun a22 =>
      Option.bind (volumegrouplaw13_some a22 (7 : Int)) fun r1003 =>
      Option.bind (copies_Settle r1003 a22) fun r1009 =>
      if (r1009.2.1 ≠ (0 : Int)) then
        some false
      else
        Option.bind (volumegroupmake_Keep keep) fun r1012 =>
        grd (inLen r1009.2.2.writes) <|
        seqO (volumegrouplaw13_CopiesAgree_l2 r1009 r1012 FUEL 1) fun a1019 =>
        Option.bind (volumegrouplaw13_awake) fun r1035 =>
        some r1035
theorem L_volumegrouplaw13_CopiesAgree {W : World} {Al : HP} {vl : Value} {l : List volumegrouplaw13_Try} {keep : UInt64} {r : Bool} (rl : Reads Al tyvolumegrouplaw13_Try vl l) (h : volumegrouplaw13_CopiesAgree l keep = some r) :
    CSpec Try.prog W 12 [vl, .int .u64 (keep.toNat : Int)] [Al] (fun x : Unit => .bool r) (fun _ => True) (fun x F => Al :: F) := by
 refine CSpec.of_body Try.func12 rfl Try.ntmps12 rfl fun F => ?_
 show CJ _ _ _ _ _ _ (_ :: F)
 unfold volumegrouplaw13_CopiesAgree at h
 refine CJ_pure (len_of rl del0) fun hlen1 => sR <| oA rfl rfl <| nT <| CJ_seq <| sR <| oM rfl rfl <| oV (V_len rfl foc0 rl Try.runUnderlying88) rfl <| oP (P_gtr (a := ((l.length : Nat) : Int)) (b := (6 : Int)) rfl rfl) rfl <| nT <| CJ_condP rfl bT_dec (fun hg1 => ?_) (fun hg1 => ?_)
 ·
  replace h := ite_t hg1 h
  refine sR ?_
  obtain ⟨r2, hr3, h⟩ := bind_e h
  refine oO <| O_call (L_volumegrouplaw13_awake hr3) rfl Try.call43 Dels.nil rfl fun _ _ => oA rfl rfl <| nT <| CJ_ret <| QJ_then_ret ?_
  cases h
  exact fE (res1 Try.results12 rfl) () eR
 ·
  replace h := ite_f hg1 h
  refine kT <| sR ?_
  obtain ⟨r4, hr5, h⟩ := bind_e h
  refine oO <| O_call (L_volumegrouplaw13_areas hr5) rfl Try.call44 Dels.nil rfl fun X6 _ => oA rfl rfl <| nT <| CJ_seq <| sR <| oM rfl rfl ?_
  rcases opt_e h with ⟨ht8, h⟩ | ⟨o9, ht8, h⟩
  ·
   rw [ht8]
   refine RJ_ent (t1_ (eD eR)) <| oP (P_eqlNN rfl rfl Try.underlying24) rfl <| nT <| CJ_condT rfl rfl <| sR <| oA rfl rfl <| nT <| CJ_ret <| QJ_then_ret ?_
   cases h
   exact fE (res1 Try.results12 rfl) () eR
  ·
   rw [ht8]
   refine RJ_ent (Ent.takeC (A' := Arr X6 o9) del0 rfl eR) <| oP (P_eqlPN rfl rfl Try.underlying24) rfl <| nT <| CJ_condF rfl rfl <| kT <| CJ_seq <| sR <| oM rfl rfl ?_
   obtain ⟨r10, hr11, h⟩ := bind_e h
   refine oO <| O_call (L_volumegrouplaw13_some hr11) rfl Try.call46 (Dels.cons del0 Dels.nil) rfl fun X12 _ => RJ_pure (fun h hh => Rs_len (stars_perm (del2 (A := Rs (DevP X6) r10 X12.2)).out h hh)) fun hdl15 => ?_
   obtain ⟨r16, hr17, h⟩ := bind_e h
   refine oO <| O_call (L_copies_Commit (Reads.sl _ _ _) hr17) rfl Try.call45 (Dels.cons del1 (Dels.cons del1 (Dels.cons del0 Dels.nil))) rfl fun _ _ => oM rfl rfl <| oP (P_extract rfl rfl) rfl <| oP (P_extract rfl rfl) rfl <| oA rfl rfl <| oA rfl rfl <| nT <| sR <| oM rfl rfl <| oP (P_neq (a := r16.2.1) (b := (0 : Int)) rfl rfl) rfl <| nT <| CJ_condP rfl bT_dec (fun hg2 => ?_) (fun hg2 => ?_)
   ·
    replace h := ite_t hg2 h
    refine sR <| oA rfl rfl <| nT <| CJ_ret <| QJ_then_ret ?_
    cases h
    exact fE (res1 Try.results12 rfl) () (t3_ (eD (eD (eD eR))))
   ·
    replace h := ite_f hg2 h
    refine kT <| CJ_seq <| sR <| oA rfl rfl <| nT ?_
    obtain ⟨y20, hl18, hK19⟩ := seq_e h
    refine CJ_cutT (X := ArrS) [4, 8, 9, 10, 11, 12, 13, 37, 38, 39, 40, 41, 42, 43, 44, 45, 46, 47, 48, 49, 50, 51, 52, 53, 54, 55, 56, 57, 58, 59, 60, 61, 62, 63, 64, 65, 66, 67, 68, 69, 70, 71, 72, 73, 74, 75, 76, 77, 78, 79, 80, 81, 82, 83, 84] (fun a22 => ([] : Slots)) (fun a22 R => Arr X6 a22 :: R) (fun a22 => y20 = .inl a22) (Dels.cons del2 (Dels.cons del0 (Dels.cons del0 Dels.nil))) ?_ ?_
    ·
     refine CJ_block <| CJ_loopR (X := Nat × ArrS × Nat) [4, 8, 9, 10, 11, 12, 13, 37, 38, 39, 40, 41, 42, 43, 44, 45, 46, 47, 48, 49, 50, 51, 52, 53, 54, 55, 56, 57, 58, 59, 60, 61, 62, 63, 64, 65, 66, 67, 68, 69, 70, 71, 72, 73, 74, 75, 76, 77, 78, 79, 80, 81, 82, 83, 84] (fun ⟨n, x23, x24⟩ => ([(8, .int .i64 (((x24 : Nat) : Int)))] : Slots)) (fun ⟨n, x23, x24⟩ R => Arr X6 x23 :: R) (fun ⟨n, x23, x24⟩ => volumegrouplaw13_CopiesAgree_l1 l n x23 x24 = some y20) (fun ⟨n, x23, x24⟩ => n) ⟨FUEL, r16.2.2, 0⟩ ?_ ?_ (t2_ (t2_ (eD (eD eR)))) ?_
     · exact hl18
     · exact ⟨rfl, True.intro⟩
     ·
      rintro ⟨n, x23, x24⟩ h
      cases n with
      | zero => exact none_e h
      | succ n => ?_
      replace h : volumegrouplaw13_CopiesAgree_l1_b l (volumegrouplaw13_CopiesAgree_l1 l n) x23 x24 = some y20 := h
      unfold volumegrouplaw13_CopiesAgree_l1_b at h
      show CJ _ _ _ _ _ (([(8, .int .i64 (((x24 : Nat) : Int)))] : Slots) ++ forget _ _) (Arr X6 x23 :: _)
      refine CJ_seq <| sR <| oM rfl rfl <| oM rfl rfl <| oV (V_len rfl foc1 rl Try.runUnderlying88) rfl <| oP (P_lss (a := ((x24 : Nat) : Int)) (b := ((l.length : Nat) : Int)) rfl rfl) rfl <| nT <| CJ_condP rfl bT_dec (fun hg3 => ?_) (fun hg3 => ?_)
      ·
       replace h := ite_t hg3 h
       refine kT <| CJ_seq <| CJ_block <| sR <| oM rfl rfl ?_
       obtain ⟨r25, hr26, h⟩ := bind_e h
       refine oO <| O_call (L_volumegrouplaw13_some hr26) rfl Try.call46 (Dels.cons del0 Dels.nil) rfl fun X27 _ => RJ_pure (fun h hh => Rs_len (stars_perm (del2 (A := Rs (DevP X6) r25 X27.2)).out h hh)) fun hdl30 => ?_
       obtain ⟨r31, hr32, h⟩ := bind_e h
       refine oO <| O_call (L_copies_Scan (Reads.sl _ _ _) hr32) rfl Try.call41 (Dels.cons del1 (Dels.cons del1 (Dels.cons del0 Dels.nil))) rfl fun X33 _ => oM rfl rfl <| oP (P_extract (v := X33.1.v) rfl rfl) rfl <| oP (P_extract (v := X33.2.v) rfl rfl) rfl <| oP (P_extract rfl rfl) rfl <| oA rfl rfl <| oA rfl rfl <| oA rfl rfl <| nT <| sR <| oM rfl rfl <| oM rfl rfl <| oM rfl rfl <| oV (V_index (i := x24) rfl rfl rfl (by omega) foc5 rl Try.runUnderlying88 Try.sizeOf90) rfl <| oP (P_fieldE rfl ⟨_, _, _, Try.runUnderlying90, rfl, rfl, Try.sizeOf5, rfl⟩) rfl <| oV (V_loadE rfl rfl (by omega) foc5 rl rfl rfl Try.isAgg5) rfl <| oP (P_rem_u8 (a := ((l.getD x24 (⟨0, 0, false, 0⟩ : volumegrouplaw13_Try))).Fuse) (b := (40 : UInt8)) rfl rfl (by decide)) rfl <| oP (P_convSame rfl Try.runUnderlying5 Try.runUnderlying3 (wrap64_u _ (by have h9 := ((((l.getD x24 (⟨0, 0, false, 0⟩ : volumegrouplaw13_Try))).Fuse % (40 : UInt8))).toNat_lt; exact (by omega : ((((l.getD x24 (⟨0, 0, false, 0⟩ : volumegrouplaw13_Try))).Fuse % (40 : UInt8))).toNat < 9223372036854775808)))) rfl ?_
       obtain ⟨w36, hw36, h⟩ := lt_e h
       rw [← hw36]
       obtain ⟨hg4, h⟩ := grd_Ie h
       refine oO <| O_call (c_FuseD hg4.2) rfl Try.call21 (Dels.cons del2 Dels.nil) rfl fun _ _ => nT <| CJ_seq <| CJ_seq <| AJ_startH 256 (by kernel_rfl) rfl <| aN 0 1 rfl rfl (P_move rfl) rfl <| aN 2 5 rfl rfl (P_move rfl) rfl ?_
       obtain ⟨hg5, h⟩ := grd_Ie h
       refine aN 3 13 rfl rfl (P_add (a := r31.2.2) (b := (1 : Int)) rfl rfl hg5) rfl <| aN 5 45 rfl rfl (P_move rfl) rfl ?_
       obtain ⟨hg6, h⟩ := grd_de h
       refine AJ_two 1 4 47 61 rfl rfl (by kernel_rfl) rfl rfl (GY_none rfl) (GY_none rfl) ?_ ?_
       ·
        obtain ⟨r77, hr78, h⟩ := bind_e h
        refine O_call (L_volumegrouplaw13_some hr78) rfl Try.call46 (Dels.cons del0 Dels.nil) rfl fun X79 _ => ⟨fun _ => (t0_ (t2_ (t2_ (t2_ (t2_ (t2_ (eD (eD eR)))))))), ?_⟩
        refine AJ_pure (fun h hh => Rs_len (stars_perm (del2 (A := Rs (DevP X6) r77 X79.2)).out h hh)) fun hdl82 => AJ_op 4 63 rfl (by kernel_rfl) rfl (GY_none rfl) <| O_buildSlice rfl (bs_43_6_0_1_2_3_4_5 _ _ _ _ _ _) rfl fun b197 => ⟨fun _ => (t1_ (t3_ (t3_ (t3_ (t3_ (t3_ (eD (eD (eD eR))))))))), ?_⟩
        refine AJ_ent (Ent.trans (t0_ eR) (sl_of_lit (t := tyS) (m := 6) [(ByteArray.mk #[97]), (ByteArray.mk #[98, 98]), (ByteArray.mk #[99, 99, 99]), (ByteArray.mk #[100, 100, 100, 100]), (ByteArray.mk #[101, 101, 101, 101, 101]), (ByteArray.mk #[102, 102, 102, 102, 102, 102])] rfl rfl rfl (by decide))) <| AJ_op 6 127 rfl (by kernel_rfl) rfl (GY_none rfl) <| OJ_V (V_index (i := x24) rfl rfl rfl hg6 foc0 (Reads.sl _ _ _) Try.runUnderlying43 Try.sizeOf9) rfl <| ⟨fun _ => (t1_ (t3_ (t3_ (t3_ (t3_ (t3_ (eD (eD (eD eR))))))))), ?_⟩
        refine AJ_op 7 255 rfl (by kernel_rfl) rfl (GY_none rfl) <| OJ_V (V_loadE rfl rfl hg6 foc0 (Reads.sl _ _ _) rfl rfl Try.isAgg9) rfl <| ⟨fun _ => (t1_ (t3_ (t3_ (t3_ (t3_ (t3_ (eD (eD (eD eR))))))))), ?_⟩
        obtain ⟨r357, hr358, h⟩ := bind_e h
        refine AJ_op 8 511 rfl (by kernel_rfl) rfl (GY_none rfl) <| O_call (L_copies_Commit (Reads.sl _ _ _) hr358) rfl Try.call45 (Dels.cons del2 (Dels.cons del2 (Dels.cons del1 Dels.nil))) rfl fun _ _ => ⟨fun h => absurd h (by decide), ?_⟩
        refine aN 9 1023 rfl rfl (P_move rfl) rfl <| aN 10 2047 rfl rfl (P_extract rfl rfl) rfl <| aN 11 4095 rfl rfl (P_extract rfl rfl) rfl <| aN 12 8191 rfl rfl (P_assign rfl) rfl <| aN 13 16383 rfl rfl (P_assign rfl) rfl <| AJ_done (by kernel_rfl) <| QJ_ent (t2_ (t7_ (eD (eD (eD (eD (eD (eD (eD eR))))))))) <| QJ_then <| sR <| oM rfl rfl <| oP (P_neq (a := r357.2.1) (b := (0 : Int)) rfl rfl) rfl <| nT <| CJ_condP rfl bT_dec (fun hg7 => ?_) (fun hg7 => ?_)
        ·
         replace h := ite_t hg7 h
         refine CJ_seq <| sR <| oM rfl rfl <| oP (P_neq (a := r357.2.1) (b := (5 : Int)) rfl rfl) rfl <| nT <| CJ_condP rfl bT_dec (fun hg8 => ?_) (fun hg8 => ?_)
         ·
          replace h := ite_t hg8 h
          refine sR <| oA rfl rfl <| nT <| CJ_ret <| QJ_then_ret <| QJ_then_ret <| QJ_block_ret <| QJ_then_ret <| QJ_round_ret <| QJ_block_ret <| QJ_then_ret ?_
          have hE := Option.some.inj h
          replace hE := seq_inr hK19 hE.symm
          subst hE
          exact fE (res1 Try.results12 rfl) () (t1_ (eD eR))
         ·
          replace h := ite_f hg8 h
          refine kT <| CJ_region <| oM rfl rfl <| oM rfl rfl <| oM rfl rfl <| oV (V_index (i := x24) rfl rfl rfl (by omega) foc1 rl Try.runUnderlying88 Try.sizeOf90) rfl <| oP (P_fieldE rfl ⟨_, _, _, Try.runUnderlying90, rfl, rfl, Try.sizeOf39, rfl⟩) rfl <| oV (V_loadE rfl rfl (by omega) foc1 rl rfl rfl Try.isAgg39) rfl ?_
          obtain ⟨r597, hr598, h⟩ := bind_e h
          refine oO <| O_call (L_volumegroupmake_Keep hr598) rfl Try.call24 Dels.nil rfl fun X599 _ => ?_
          obtain ⟨hg9, h⟩ := grd_Le h
          refine oO <| O_call (c_Restart (Reads.sl _ _ _) hg9) rfl Try.call23 (Dels.cons del1 (Dels.cons del0 Dels.nil)) rfl fun _ _ => nT <| CJ_region <| oM rfl rfl ?_
          obtain ⟨hg10, h⟩ := grd_Ie h
          exact oO <| O_call (c_FuseD hg10.2) rfl Try.call21 (Dels.cons del0 Dels.nil) rfl fun _ _ => RJ_nil <| QJ_block_normal <| QJ_then <| CJ_region <| oM rfl rfl <| oP (PJ_eq (P_add (a := ((x24 : Nat) : Int)) (b := (1 : Int)) rfl rfl (by omega)) rfl) rfl <| oA rfl rfl <| RJ_nil <| nR ⟨n, { (rsS r357.2.2 r597) with fuse := ((0 : Int)).toNat }, (x24 + 1)⟩ h ⟨rfl, True.intro⟩ (t0_ (t1_ (eD eR)))
        ·
         replace h := ite_f hg7 h
         refine kT <| CJ_region <| oM rfl rfl ?_
         obtain ⟨hg11, h⟩ := grd_Ie h
         exact oO <| O_call (c_FuseD hg11.2) rfl Try.call21 (Dels.cons del0 Dels.nil) rfl fun _ _ => RJ_nil <| QJ_block_normal <| QJ_then <| CJ_region <| oM rfl rfl <| oP (PJ_eq (P_add (a := ((x24 : Nat) : Int)) (b := (1 : Int)) rfl rfl (by omega)) rfl) rfl <| oA rfl rfl <| RJ_nil <| nR ⟨n, { r357.2.2 with fuse := ((0 : Int)).toNat }, (x24 + 1)⟩ h ⟨rfl, True.intro⟩ eR
       ·
        refine O_buildSlice rfl (bs_43_6_0_1_2_3_4_5 _ _ _ _ _ _) rfl fun b197 => ⟨fun _ => (t1_ (t1_ (t1_ (t1_ (t1_ (t1_ (eD eR))))))), ?_⟩
        refine AJ_ent (Ent.trans (t0_ eR) (sl_of_lit (t := tyS) (m := 6) [(ByteArray.mk #[97]), (ByteArray.mk #[98, 98]), (ByteArray.mk #[99, 99, 99]), (ByteArray.mk #[100, 100, 100, 100]), (ByteArray.mk #[101, 101, 101, 101, 101]), (ByteArray.mk #[102, 102, 102, 102, 102, 102])] rfl rfl rfl (by decide))) <| AJ_two 1 6 63 125 rfl rfl (by kernel_rfl) rfl rfl (GY_none rfl) (GY_none rfl) ?_ ?_
        ·
         obtain ⟨r238, hr239, h⟩ := bind_e h
         refine O_call (L_volumegrouplaw13_some hr239) rfl Try.call46 (Dels.cons del1 Dels.nil) rfl fun X240 _ => ⟨fun _ => (t0_ (t3_ (t3_ (t3_ (t3_ (t3_ (eD (eD (eD eR))))))))), ?_⟩
         refine AJ_pure (fun h hh => Rs_len (stars_perm (del2 (A := Rs (DevP X6) r238 X240.2)).out h hh)) fun hdl243 => AJ_op 6 127 rfl (by kernel_rfl) rfl (GY_none rfl) <| OJ_V (V_index (i := x24) rfl rfl rfl hg6 foc3 (Reads.sl _ _ _) Try.runUnderlying43 Try.sizeOf9) rfl <| ⟨fun _ => (t0_ (t3_ (t3_ (t3_ (t3_ (t3_ (eD (eD (eD eR))))))))), ?_⟩
         refine AJ_op 7 255 rfl (by kernel_rfl) rfl (GY_none rfl) <| OJ_V (V_loadE rfl rfl hg6 foc3 (Reads.sl _ _ _) rfl rfl Try.isAgg9) rfl <| ⟨fun _ => (t0_ (t3_ (t3_ (t3_ (t3_ (t3_ (eD (eD (eD eR))))))))), ?_⟩
         obtain ⟨r518, hr519, h⟩ := bind_e h
         refine AJ_op 8 511 rfl (by kernel_rfl) rfl (GY_none rfl) <| O_call (L_copies_Commit (Reads.sl _ _ _) hr519) rfl Try.call45 (Dels.cons del1 (Dels.cons del1 (Dels.cons del0 Dels.nil))) rfl fun _ _ => ⟨fun h => absurd h (by decide), ?_⟩
         refine aN 9 1023 rfl rfl (P_move rfl) rfl <| aN 10 2047 rfl rfl (P_extract rfl rfl) rfl <| aN 11 4095 rfl rfl (P_extract rfl rfl) rfl <| aN 12 8191 rfl rfl (P_assign rfl) rfl <| aN 13 16383 rfl rfl (P_assign rfl) rfl <| AJ_done (by kernel_rfl) <| QJ_ent (t2_ (t7_ (eD (eD (eD (eD (eD (eD (eD eR))))))))) <| QJ_then <| sR <| oM rfl rfl <| oP (P_neq (a := r518.2.1) (b := (0 : Int)) rfl rfl) rfl <| nT <| CJ_condP rfl bT_dec (fun hg7 => ?_) (fun hg7 => ?_)
         ·
          replace h := ite_t hg7 h
          refine CJ_seq <| sR <| oM rfl rfl <| oP (P_neq (a := r518.2.1) (b := (5 : Int)) rfl rfl) rfl <| nT <| CJ_condP rfl bT_dec (fun hg8 => ?_) (fun hg8 => ?_)
          ·
           replace h := ite_t hg8 h
           refine sR <| oA rfl rfl <| nT <| CJ_ret <| QJ_then_ret <| QJ_then_ret <| QJ_block_ret <| QJ_then_ret <| QJ_round_ret <| QJ_block_ret <| QJ_then_ret ?_
           have hE := Option.some.inj h
           replace hE := seq_inr hK19 hE.symm
           subst hE
           exact fE (res1 Try.results12 rfl) () (t1_ (eD eR))
          ·
           replace h := ite_f hg8 h
           refine kT <| CJ_region <| oM rfl rfl <| oM rfl rfl <| oM rfl rfl <| oV (V_index (i := x24) rfl rfl rfl (by omega) foc1 rl Try.runUnderlying88 Try.sizeOf90) rfl <| oP (P_fieldE rfl ⟨_, _, _, Try.runUnderlying90, rfl, rfl, Try.sizeOf39, rfl⟩) rfl <| oV (V_loadE rfl rfl (by omega) foc1 rl rfl rfl Try.isAgg39) rfl ?_
           obtain ⟨r758, hr759, h⟩ := bind_e h
           refine oO <| O_call (L_volumegroupmake_Keep hr759) rfl Try.call24 Dels.nil rfl fun X760 _ => ?_
           obtain ⟨hg9, h⟩ := grd_Le h
           refine oO <| O_call (c_Restart (Reads.sl _ _ _) hg9) rfl Try.call23 (Dels.cons del1 (Dels.cons del0 Dels.nil)) rfl fun _ _ => nT <| CJ_region <| oM rfl rfl ?_
           obtain ⟨hg10, h⟩ := grd_Ie h
           exact oO <| O_call (c_FuseD hg10.2) rfl Try.call21 (Dels.cons del0 Dels.nil) rfl fun _ _ => RJ_nil <| QJ_block_normal <| QJ_then <| CJ_region <| oM rfl rfl <| oP (PJ_eq (P_add (a := ((x24 : Nat) : Int)) (b := (1 : Int)) rfl rfl (by omega)) rfl) rfl <| oA rfl rfl <| RJ_nil <| nR ⟨n, { (rsS r518.2.2 r758) with fuse := ((0 : Int)).toNat }, (x24 + 1)⟩ h ⟨rfl, True.intro⟩ (t0_ (t1_ (eD eR)))
         ·
          replace h := ite_f hg7 h
          refine kT <| CJ_region <| oM rfl rfl ?_
          obtain ⟨hg11, h⟩ := grd_Ie h
          exact oO <| O_call (c_FuseD hg11.2) rfl Try.call21 (Dels.cons del0 Dels.nil) rfl fun _ _ => RJ_nil <| QJ_block_normal <| QJ_then <| CJ_region <| oM rfl rfl <| oP (PJ_eq (P_add (a := ((x24 : Nat) : Int)) (b := (1 : Int)) rfl rfl (by omega)) rfl) rfl <| oA rfl rfl <| RJ_nil <| nR ⟨n, { r518.2.2 with fuse := ((0 : Int)).toNat }, (x24 + 1)⟩ h ⟨rfl, True.intro⟩ eR
        ·
         refine OJ_V (V_index (i := x24) rfl rfl rfl hg6 foc0 (Reads.sl _ _ _) Try.runUnderlying43 Try.sizeOf9) rfl <| ⟨fun _ => (t1_ (t1_ (t1_ (t1_ (t1_ (t1_ (eD eR))))))), ?_⟩
         refine AJ_two 1 7 127 253 rfl rfl (by kernel_rfl) rfl rfl (GY_none rfl) (GY_none rfl) ?_ ?_
         ·
          obtain ⟨r478, hr479, h⟩ := bind_e h
          refine O_call (L_volumegrouplaw13_some hr479) rfl Try.call46 (Dels.cons del1 Dels.nil) rfl fun X480 _ => ⟨fun _ => (t0_ (t3_ (t3_ (t3_ (t3_ (t3_ (eD (eD (eD eR))))))))), ?_⟩
          refine AJ_pure (fun h hh => Rs_len (stars_perm (del2 (A := Rs (DevP X6) r478 X480.2)).out h hh)) fun hdl483 => AJ_op 7 255 rfl (by kernel_rfl) rfl (GY_none rfl) <| OJ_V (V_loadE rfl rfl hg6 foc3 (Reads.sl _ _ _) rfl rfl Try.isAgg9) rfl <| ⟨fun _ => (t0_ (t3_ (t3_ (t3_ (t3_ (t3_ (eD (eD (eD eR))))))))), ?_⟩
          obtain ⟨r758, hr759, h⟩ := bind_e h
          refine AJ_op 8 511 rfl (by kernel_rfl) rfl (GY_none rfl) <| O_call (L_copies_Commit (Reads.sl _ _ _) hr759) rfl Try.call45 (Dels.cons del1 (Dels.cons del1 (Dels.cons del0 Dels.nil))) rfl fun _ _ => ⟨fun h => absurd h (by decide), ?_⟩
          refine aN 9 1023 rfl rfl (P_move rfl) rfl <| aN 10 2047 rfl rfl (P_extract rfl rfl) rfl <| aN 11 4095 rfl rfl (P_extract rfl rfl) rfl <| aN 12 8191 rfl rfl (P_assign rfl) rfl <| aN 13 16383 rfl rfl (P_assign rfl) rfl <| AJ_done (by kernel_rfl) <| QJ_ent (t2_ (t7_ (eD (eD (eD (eD (eD (eD (eD eR))))))))) <| QJ_then <| sR <| oM rfl rfl <| oP (P_neq (a := r758.2.1) (b := (0 : Int)) rfl rfl) rfl <| nT <| CJ_condP rfl bT_dec (fun hg7 => ?_) (fun hg7 => ?_)
          ·
           replace h := ite_t hg7 h
           refine CJ_seq <| sR <| oM rfl rfl <| oP (P_neq (a := r758.2.1) (b := (5 : Int)) rfl rfl) rfl <| nT <| CJ_condP rfl bT_dec (fun hg8 => ?_) (fun hg8 => ?_)
           ·
            replace h := ite_t hg8 h
            refine sR <| oA rfl rfl <| nT <| CJ_ret <| QJ_then_ret <| QJ_then_ret <| QJ_block_ret <| QJ_then_ret <| QJ_round_ret <| QJ_block_ret <| QJ_then_ret ?_
            have hE := Option.some.inj h
            replace hE := seq_inr hK19 hE.symm
            subst hE
            exact fE (res1 Try.results12 rfl) () (t1_ (eD eR))
           ·
            replace h := ite_f hg8 h
            refine kT <| CJ_region <| oM rfl rfl <| oM rfl rfl <| oM rfl rfl <| oV (V_index (i := x24) rfl rfl rfl (by omega) foc1 rl Try.runUnderlying88 Try.sizeOf90) rfl <| oP (P_fieldE rfl ⟨_, _, _, Try.runUnderlying90, rfl, rfl, Try.sizeOf39, rfl⟩) rfl <| oV (V_loadE rfl rfl (by omega) foc1 rl rfl rfl Try.isAgg39) rfl ?_
            obtain ⟨r998, hr999, h⟩ := bind_e h
            refine oO <| O_call (L_volumegroupmake_Keep hr999) rfl Try.call24 Dels.nil rfl fun X1000 _ => ?_
            obtain ⟨hg9, h⟩ := grd_Le h
            refine oO <| O_call (c_Restart (Reads.sl _ _ _) hg9) rfl Try.call23 (Dels.cons del1 (Dels.cons del0 Dels.nil)) rfl fun _ _ => nT <| CJ_region <| oM rfl rfl ?_
            obtain ⟨hg10, h⟩ := grd_Ie h
            exact oO <| O_call (c_FuseD hg10.2) rfl Try.call21 (Dels.cons del0 Dels.nil) rfl fun _ _ => RJ_nil <| QJ_block_normal <| QJ_then <| CJ_region <| oM rfl rfl <| oP (PJ_eq (P_add (a := ((x24 : Nat) : Int)) (b := (1 : Int)) rfl rfl (by omega)) rfl) rfl <| oA rfl rfl <| RJ_nil <| nR ⟨n, { (rsS r758.2.2 r998) with fuse := ((0 : Int)).toNat }, (x24 + 1)⟩ h ⟨rfl, True.intro⟩ (t0_ (t1_ (eD eR)))
          ·
           replace h := ite_f hg7 h
           refine kT <| CJ_region <| oM rfl rfl ?_
           obtain ⟨hg11, h⟩ := grd_Ie h
           exact oO <| O_call (c_FuseD hg11.2) rfl Try.call21 (Dels.cons del0 Dels.nil) rfl fun _ _ => RJ_nil <| QJ_block_normal <| QJ_then <| CJ_region <| oM rfl rfl <| oP (PJ_eq (P_add (a := ((x24 : Nat) : Int)) (b := (1 : Int)) rfl rfl (by omega)) rfl) rfl <| oA rfl rfl <| RJ_nil <| nR ⟨n, { r758.2.2 with fuse := ((0 : Int)).toNat }, (x24 + 1)⟩ h ⟨rfl, True.intro⟩ eR
         ·
          refine OJ_V (V_loadE rfl rfl hg6 foc0 (Reads.sl _ _ _) rfl rfl Try.isAgg9) rfl <| ⟨fun _ => (t1_ (t1_ (t1_ (t1_ (t1_ (t1_ (eD eR))))))), ?_⟩
          obtain ⟨r478, hr479, h⟩ := bind_e h
          refine AJ_op 1 255 rfl (by kernel_rfl) rfl (GY_none rfl) <| O_call (L_volumegrouplaw13_some hr479) rfl Try.call46 (Dels.cons del1 Dels.nil) rfl fun X480 _ => ⟨fun _ => (t0_ (t3_ (t3_ (t3_ (t3_ (t3_ (eD (eD (eD eR))))))))), ?_⟩
          refine AJ_pure (fun h hh => Rs_len (stars_perm (del2 (A := Rs (DevP X6) r478 X480.2)).out h hh)) fun hdl483 => ?_
          obtain ⟨r758, hr759, h⟩ := bind_e h
          refine AJ_op 8 511 rfl (by kernel_rfl) rfl (GY_none rfl) <| O_call (L_copies_Commit (Reads.sl _ _ _) hr759) rfl Try.call45 (Dels.cons del1 (Dels.cons del1 (Dels.cons del0 Dels.nil))) rfl fun _ _ => ⟨fun h => absurd h (by decide), ?_⟩
          refine aN 9 1023 rfl rfl (P_move rfl) rfl <| aN 10 2047 rfl rfl (P_extract rfl rfl) rfl <| aN 11 4095 rfl rfl (P_extract rfl rfl) rfl <| aN 12 8191 rfl rfl (P_assign rfl) rfl <| aN 13 16383 rfl rfl (P_assign rfl) rfl <| AJ_done (by kernel_rfl) <| QJ_ent (t2_ (t7_ (eD (eD (eD (eD (eD (eD (eD eR))))))))) <| QJ_then <| sR <| oM rfl rfl <| oP (P_neq (a := r758.2.1) (b := (0 : Int)) rfl rfl) rfl <| nT <| CJ_condP rfl bT_dec (fun hg7 => ?_) (fun hg7 => ?_)
          ·
           replace h := ite_t hg7 h
           refine CJ_seq <| sR <| oM rfl rfl <| oP (P_neq (a := r758.2.1) (b := (5 : Int)) rfl rfl) rfl <| nT <| CJ_condP rfl bT_dec (fun hg8 => ?_) (fun hg8 => ?_)
           ·
            replace h := ite_t hg8 h
            refine sR <| oA rfl rfl <| nT <| CJ_ret <| QJ_then_ret <| QJ_then_ret <| QJ_block_ret <| QJ_then_ret <| QJ_round_ret <| QJ_block_ret <| QJ_then_ret ?_
            have hE := Option.some.inj h
            replace hE := seq_inr hK19 hE.symm
            subst hE
            exact fE (res1 Try.results12 rfl) () (t1_ (eD eR))
           ·
            replace h := ite_f hg8 h
            refine kT <| CJ_region <| oM rfl rfl <| oM rfl rfl <| oM rfl rfl <| oV (V_index (i := x24) rfl rfl rfl (by omega) foc1 rl Try.runUnderlying88 Try.sizeOf90) rfl <| oP (P_fieldE rfl ⟨_, _, _, Try.runUnderlying90, rfl, rfl, Try.sizeOf39, rfl⟩) rfl <| oV (V_loadE rfl rfl (by omega) foc1 rl rfl rfl Try.isAgg39) rfl ?_
            obtain ⟨r998, hr999, h⟩ := bind_e h
            refine oO <| O_call (L_volumegroupmake_Keep hr999) rfl Try.call24 Dels.nil rfl fun X1000 _ => ?_
            obtain ⟨hg9, h⟩ := grd_Le h
            refine oO <| O_call (c_Restart (Reads.sl _ _ _) hg9) rfl Try.call23 (Dels.cons del1 (Dels.cons del0 Dels.nil)) rfl fun _ _ => nT <| CJ_region <| oM rfl rfl ?_
            obtain ⟨hg10, h⟩ := grd_Ie h
            exact oO <| O_call (c_FuseD hg10.2) rfl Try.call21 (Dels.cons del0 Dels.nil) rfl fun _ _ => RJ_nil <| QJ_block_normal <| QJ_then <| CJ_region <| oM rfl rfl <| oP (PJ_eq (P_add (a := ((x24 : Nat) : Int)) (b := (1 : Int)) rfl rfl (by omega)) rfl) rfl <| oA rfl rfl <| RJ_nil <| nR ⟨n, { (rsS r758.2.2 r998) with fuse := ((0 : Int)).toNat }, (x24 + 1)⟩ h ⟨rfl, True.intro⟩ (t0_ (t1_ (eD eR)))
          ·
           replace h := ite_f hg7 h
           refine kT <| CJ_region <| oM rfl rfl ?_
           obtain ⟨hg11, h⟩ := grd_Ie h
           exact oO <| O_call (c_FuseD hg11.2) rfl Try.call21 (Dels.cons del0 Dels.nil) rfl fun _ _ => RJ_nil <| QJ_block_normal <| QJ_then <| CJ_region <| oM rfl rfl <| oP (PJ_eq (P_add (a := ((x24 : Nat) : Int)) (b := (1 : Int)) rfl rfl (by omega)) rfl) rfl <| oA rfl rfl <| RJ_nil <| nR ⟨n, { r758.2.2 with fuse := ((0 : Int)).toNat }, (x24 + 1)⟩ h ⟨rfl, True.intro⟩ eR
      ·
       replace h := ite_f hg3 h
       exact CJ_exit <| QJ_then_exit <| QJ_round_exit <| QJ_block_here <| cR x23 (Option.some.inj h).symm True.intro eR
    ·
     rintro a22 hy1002
     replace h := seq_inl hK19 hy1002
     show CJ _ _ _ _ _ (([] : Slots) ++ forget _ _) (Arr X6 a22 :: _)
     refine sR <| oM rfl rfl ?_
     obtain ⟨r1003, hr1004, h⟩ := bind_e h
     refine oO <| O_call (L_volumegrouplaw13_some hr1004) rfl Try.call46 (Dels.cons del0 Dels.nil) rfl fun X1005 _ => RJ_pure (fun h hh => Rs_len (stars_perm (del2 (A := Rs (DevP X6) r1003 X1005.2)).out h hh)) fun hdl1008 => ?_
     obtain ⟨r1009, hr1010, h⟩ := bind_e h
     refine oO <| O_call (L_copies_Settle (Reads.sl _ _ _) hr1010) rfl Try.call52 (Dels.cons del1 (Dels.cons del1 (Dels.cons del0 Dels.nil))) rfl fun _ _ => oM rfl rfl <| oP (P_extract rfl rfl) rfl <| oP (P_extract rfl rfl) rfl <| oO <| O_alloc Try.zeroValue34 rfl rfl fun b1011 => oO <| O_storeN rfl rfl foc0 Try.sizeOf34 rfl rfl rfl <| oA rfl rfl <| nT <| CJ_seq <| sR <| oM rfl rfl <| oP (P_neq (a := r1009.2.1) (b := (0 : Int)) rfl rfl) rfl <| nT <| CJ_condP rfl bT_dec (fun hg12 => ?_) (fun hg12 => ?_)
     ·
      replace h := ite_t hg12 h
      refine sR <| oA rfl rfl <| nT <| CJ_ret <| QJ_then_ret ?_
      cases h
      exact fE (res1 Try.results12 rfl) () (t4_ (eD (eD (eD (eD eR)))))
     ·
      replace h := ite_f hg12 h
      refine kT <| sR <| oM rfl rfl <| oM rfl rfl ?_
      obtain ⟨r1012, hr1013, h⟩ := bind_e h
      refine oO <| O_call (L_volumegroupmake_Keep hr1013) rfl Try.call24 Dels.nil rfl fun X1014 _ => ?_
      obtain ⟨hg13, h⟩ := grd_Le h
      refine oO <| O_call (c_Restart (Reads.sl _ _ _) hg13) rfl Try.call23 (Dels.cons del4 (Dels.cons del0 Dels.nil)) rfl fun _ _ => nT <| CJ_seq <| sR <| oA rfl rfl <| nT ?_
      obtain ⟨y1018, hl1016, hK1017⟩ := seq_e h
      refine CJ_cutT (X := Unit) [4, 16, 17, 18, 19, 20, 21, 97, 98, 99, 100, 101, 102, 103, 104, 105, 106, 107, 108, 109, 110, 111, 112, 113, 114, 115, 116, 117, 118, 119, 120, 121, 122, 123, 124, 125, 126] (fun _ => ([] : Slots)) (fun _ R => R) (fun _ => y1018 = .inl ()) (Dels.cons del1 (Dels.cons del2 (Dels.cons del2 Dels.nil))) ?_ ?_
      ·
       refine CJ_block <| CJ_loopR (X := Nat × Nat) [4, 16, 17, 18, 19, 20, 21, 97, 98, 99, 100, 101, 102, 103, 104, 105, 106, 107, 108, 109, 110, 111, 112, 113, 114, 115, 116, 117, 118, 119, 120, 121, 122, 123, 124, 125, 126] (fun ⟨n, x1020⟩ => ([(16, .int .i64 (((x1020 : Nat) : Int)))] : Slots)) (fun ⟨n, x1020⟩ R => R) (fun ⟨n, x1020⟩ => volumegrouplaw13_CopiesAgree_l2 r1009 r1012 n x1020 = some y1018) (fun ⟨n, x1020⟩ => n) ⟨FUEL, 1⟩ ?_ ?_ (t0_ (t1_ (t3_ (eD (eD (eD eR)))))) ?_
       · exact hl1016
       · exact ⟨rfl, True.intro⟩
       ·
        rintro ⟨n, x1020⟩ h
        cases n with
        | zero => exact none_e h
        | succ n => ?_
        replace h : volumegrouplaw13_CopiesAgree_l2_b r1009 r1012 (volumegrouplaw13_CopiesAgree_l2 r1009 r1012 n) x1020 = some y1018 := h
        unfold volumegrouplaw13_CopiesAgree_l2_b at h
        show CJ _ _ _ _ _ (([(16, .int .i64 (((x1020 : Nat) : Int)))] : Slots) ++ forget _ _) (_)
        refine CJ_seq <| sR <| oM rfl rfl <| oP (P_lss (a := ((x1020 : Nat) : Int)) (b := (8 : Int)) rfl rfl) rfl <| nT <| CJ_condP rfl bT_dec (fun hg14 => ?_) (fun hg14 => ?_)
        ·
         replace h := ite_t hg14 h
         refine kT <| CJ_seq <| CJ_block <| sR <| oM rfl rfl <| oM rfl rfl ?_
         obtain ⟨r1021, hr1022, h⟩ := bind_e h
         refine oO <| O_call (L_volumegrouplaw13_some hr1022) rfl Try.call46 (Dels.cons del0 Dels.nil) rfl fun X1023 _ => RJ_pure (fun h hh => Rs_len (stars_perm (del2 (A := Rs (DevP X6) r1021 X1023.2)).out h hh)) fun hdl1026 => ?_
         obtain ⟨r1027, hr1028, h⟩ := bind_e h
         refine oO <| O_call (L_copies_Scan (Reads.sl _ _ _) hr1028) rfl Try.call41 (Dels.cons del1 (Dels.cons del1 (Dels.cons del0 Dels.nil))) rfl fun X1029 _ => oM rfl rfl <| oP (P_extract (v := X1029.1.v) rfl rfl) rfl <| oP (P_extract (v := X1029.2.v) rfl rfl) rfl <| oP (P_extract rfl rfl) rfl <| oA rfl rfl <| oA rfl rfl <| oA rfl rfl <| RJ_nil <| QJ_ent (t2_ (t2_ (t3_ (t3_ (eD (eD (eD eR))))))) <| QJ_then <| sR <| oM rfl rfl ?_
         obtain ⟨r1032, hr1033, h⟩ := bind_e h
         refine oO <| O_call (L_copies_Choose (Reads.sl _ _ _) hr1033) rfl Try.call48 (Dels.cons del1 Dels.nil) rfl fun _ _ => oM rfl rfl <| oP (P_extract rfl rfl) rfl <| oP (P_extract rfl rfl) rfl <| oA rfl rfl <| oA rfl rfl <| nT <| CJ_seq <| AJ_startH 0 (by kernel_rfl) rfl <| aN 0 1 rfl rfl (P_move rfl) rfl <| aN 1 3 rfl rfl (P_neq (a := r1032.2) (b := (0 : Int)) rfl rfl) rfl <| aN 2 7 rfl rfl (P_move rfl) rfl <| AJ_splitP 116 rfl bT_dec (fun hg15B hg15 => ?_) (fun hg15B hg15 => ?_)
         ·
          replace h := ite_t hg15 h
          refine aS 3 15 rfl rfl (GY_no rfl rfl rfl hg15B) rfl <| aS 4 31 rfl rfl (GY_no rfl rfl rfl hg15B) rfl <| aN 5 63 rfl rfl (P_pickT rfl hg15B rfl) rfl <| aN 6 127 rfl rfl (P_move rfl) rfl <| AJ_splitP 120 rfl Iff.rfl (fun hg16B hg16 => ?_) (fun hg16B hg16 => ?_)
          ·
           replace h := ite_t hg16 h
           refine aS 7 255 rfl rfl (GY_no rfl rfl rfl hg16B) rfl <| aS 8 511 rfl rfl (GY_no rfl rfl rfl hg16B) rfl <| aS 9 1023 rfl rfl (GY_no rfl rfl rfl hg16B) rfl <| aS 10 2047 rfl rfl (GY_no rfl rfl rfl hg16B) rfl <| aS 11 4095 rfl rfl (GY_no rfl rfl rfl hg16B) rfl <| aN 12 8191 rfl rfl (P_pickT rfl hg16B rfl) rfl <| aD <| CJ_condT rfl rfl <| sR <| oA rfl rfl <| nT <| CJ_ret <| QJ_block_ret <| QJ_then_ret <| QJ_round_ret <| QJ_block_ret <| QJ_then_ret ?_
           have hE := Option.some.inj h
           replace hE := seq_inr hK1017 hE.symm
           subst hE
           exact fE (res1 Try.results12 rfl) () (t3_ (eD (eD (eD eR))))
          ·
           replace h := ite_f hg16 h
           refine aP 7 255 rfl rfl (GY_yes rfl rfl rfl hg16B) (P_move rfl) rfl ?_
           obtain ⟨hg17, h⟩ := grd_de h
           refine aV 8 511 rfl rfl (GY_yes rfl rfl rfl hg16B) eR (V_index (i := 0) rfl rfl rfl hg17 foc0 (Reads.sl _ _ _) Try.runUnderlying66 Try.sizeOf34) rfl <| aV 9 1023 rfl rfl (GY_yes rfl rfl rfl hg16B) eR (V_loadEN rfl rfl hg17 foc0 (Reads.sl _ _ _) rfl rfl Try.isAgg34 Try.sizeOf34) rfl <| aV 10 2047 rfl rfl (GY_yes rfl rfl rfl hg16B) eR (V_loadN rfl foc2 Try.isAgg34 Try.sizeOf34 rfl rfl) rfl <| aP 11 4095 rfl rfl (GY_yes rfl rfl rfl hg16B) (P_neqS (enc := (tyapi_Copy).enc) ((r1027.1.getD 0 (⟨false, 0, ByteArray.empty⟩ : api_Copy))) (r1009.1) rfl rfl eqs_34 (by kernel_rfl)) rfl <| aN 12 8191 rfl rfl (P_pickF rfl hg16B rfl) rfl <| aD <| CJ_condP rfl bT_dec (fun hg18 => ?_) (fun hg18 => ?_)
           ·
            replace h := ite_t hg18 h
            refine sR <| oA rfl rfl <| nT <| CJ_ret <| QJ_block_ret <| QJ_then_ret <| QJ_round_ret <| QJ_block_ret <| QJ_then_ret ?_
            have hE := Option.some.inj h
            replace hE := seq_inr hK1017 hE.symm
            subst hE
            exact fE (res1 Try.results12 rfl) () (t3_ (eD (eD (eD eR))))
           ·
            replace h := ite_f hg18 h
            exact CJ_skip <| QJ_block_normal <| QJ_then <| CJ_region <| oM rfl rfl <| oP (PJ_eq (P_add (a := ((x1020 : Nat) : Int)) (b := (1 : Int)) rfl rfl (by omega)) rfl) rfl <| oA rfl rfl <| RJ_nil <| nR ⟨n, (x1020 + 1)⟩ h ⟨rfl, True.intro⟩ (t1_ (t1_ (t1_ (eD eR))))
         ·
          replace h := ite_f hg15 h
          refine aP 3 15 rfl rfl (GY_yes rfl rfl rfl hg15B) (P_move rfl) rfl <| aP 4 31 rfl rfl (GY_yes rfl rfl rfl hg15B) (P_neq (a := r1032.1) (b := (0 : Int)) rfl rfl) rfl <| aN 5 63 rfl rfl (P_pickF rfl hg15B rfl) rfl <| aN 6 127 rfl rfl (P_move rfl) rfl <| AJ_splitP 120 rfl bT_dec (fun hg19B hg19 => ?_) (fun hg19B hg19 => ?_)
          ·
           replace h := ite_t hg19 h
           refine aS 7 255 rfl rfl (GY_no rfl rfl rfl hg19B) rfl <| aS 8 511 rfl rfl (GY_no rfl rfl rfl hg19B) rfl <| aS 9 1023 rfl rfl (GY_no rfl rfl rfl hg19B) rfl <| aS 10 2047 rfl rfl (GY_no rfl rfl rfl hg19B) rfl <| aS 11 4095 rfl rfl (GY_no rfl rfl rfl hg19B) rfl <| aN 12 8191 rfl rfl (P_pickT rfl hg19B rfl) rfl <| aD <| CJ_condT rfl rfl <| sR <| oA rfl rfl <| nT <| CJ_ret <| QJ_block_ret <| QJ_then_ret <| QJ_round_ret <| QJ_block_ret <| QJ_then_ret ?_
           have hE := Option.some.inj h
           replace hE := seq_inr hK1017 hE.symm
           subst hE
           exact fE (res1 Try.results12 rfl) () (t3_ (eD (eD (eD eR))))
          ·
           replace h := ite_f hg19 h
           refine aP 7 255 rfl rfl (GY_yes rfl rfl rfl hg19B) (P_move rfl) rfl ?_
           obtain ⟨hg20, h⟩ := grd_de h
           refine aV 8 511 rfl rfl (GY_yes rfl rfl rfl hg19B) eR (V_index (i := 0) rfl rfl rfl hg20 foc0 (Reads.sl _ _ _) Try.runUnderlying66 Try.sizeOf34) rfl <| aV 9 1023 rfl rfl (GY_yes rfl rfl rfl hg19B) eR (V_loadEN rfl rfl hg20 foc0 (Reads.sl _ _ _) rfl rfl Try.isAgg34 Try.sizeOf34) rfl <| aV 10 2047 rfl rfl (GY_yes rfl rfl rfl hg19B) eR (V_loadN rfl foc2 Try.isAgg34 Try.sizeOf34 rfl rfl) rfl <| aP 11 4095 rfl rfl (GY_yes rfl rfl rfl hg19B) (P_neqS (enc := (tyapi_Copy).enc) ((r1027.1.getD 0 (⟨false, 0, ByteArray.empty⟩ : api_Copy))) (r1009.1) rfl rfl eqs_34 (by kernel_rfl)) rfl <| aN 12 8191 rfl rfl (P_pickF rfl hg19B rfl) rfl <| aD <| CJ_condP rfl bT_dec (fun hg21 => ?_) (fun hg21 => ?_)
           ·
            replace h := ite_t hg21 h
            refine sR <| oA rfl rfl <| nT <| CJ_ret <| QJ_block_ret <| QJ_then_ret <| QJ_round_ret <| QJ_block_ret <| QJ_then_ret ?_
            have hE := Option.some.inj h
            replace hE := seq_inr hK1017 hE.symm
            subst hE
            exact fE (res1 Try.results12 rfl) () (t3_ (eD (eD (eD eR))))
           ·
            replace h := ite_f hg21 h
            exact CJ_skip <| QJ_block_normal <| QJ_then <| CJ_region <| oM rfl rfl <| oP (PJ_eq (P_add (a := ((x1020 : Nat) : Int)) (b := (1 : Int)) rfl rfl (by omega)) rfl) rfl <| oA rfl rfl <| RJ_nil <| nR ⟨n, (x1020 + 1)⟩ h ⟨rfl, True.intro⟩ (t1_ (t1_ (t1_ (eD eR))))
        ·
         replace h := ite_f hg14 h
         exact CJ_exit <| QJ_then_exit <| QJ_round_exit <| QJ_block_here <| cR () (Option.some.inj h).symm True.intro eR
      ·
       rintro _ hy1034
       replace h := seq_inl hK1017 hy1034
       show CJ _ _ _ _ _ (([] : Slots) ++ forget _ _) (_)
       refine sR ?_
       obtain ⟨r1035, hr1036, h⟩ := bind_e h
       refine oO <| O_call (L_volumegrouplaw13_awake hr1036) rfl Try.call43 Dels.nil rfl fun _ _ => oA rfl rfl <| nT <| CJ_ret ?_
       cases h
       exact fE (res1 Try.results12 rfl) () (t2_ (eD (eD eR)))
end Go.Proofs
namespace Go.Proofs
open Go.VG
abbrev txt6 : List ByteArray := [(ByteArray.mk #[97]), (ByteArray.mk #[98, 98]), (ByteArray.mk #[99, 99, 99]), (ByteArray.mk #[100, 100, 100, 100]), (ByteArray.mk #[101, 101, 101, 101, 101]), (ByteArray.mk #[102, 102, 102, 102, 102, 102])]
theorem txt6_size {i : Nat} : (txt6.getD i ByteArray.empty).size ≤ 8 := by
  match i with
  | 0 => decide
  | 1 => decide
  | 2 => decide
  | 3 => decide
  | 4 => decide
  | 5 => decide
  | _ + 6 => exact Nat.zero_le _
abbrev n30 : List Nat := List.replicate 3 30
theorem bits7 : bitsL 7 3 = List.range 3 := by decide
theorem in3 : ∀ i, i < (List.range 3).length → (List.range 3).getD i 0 < n30.length := by decide
theorem all3 {e : Nat} (he : e < n30.length) : In (List.range 3) e := ⟨e, by simpa using he, range_getD (by simpa using he)⟩
theorem agree_l1 {l : List volumegrouplaw13_Try} (h6 : l.length ≤ 6) : ∀ (N i : Nat) (s : ArrS) (c : Nat → Txt), l.length - i < N → i ≤ l.length → HI n30 (40 + 40 * i) 30 (1 + i) s c → s.fuse = 0 →
    ∃ t c', volumegrouplaw13_CopiesAgree_l1 l N s i = some (.inl t) ∧ HI n30 300 30 10 t c' ∧ t.fuse = 0
  | 0, _, _, _, h, _, _, _ => absurd h (by omega)
  | N + 1, i, s, c, h, hi, hs, hf => by
    show ∃ t c', volumegrouplaw13_CopiesAgree_l1_b _ _ _ _ = _ ∧ _
    unfold volumegrouplaw13_CopiesAgree_l1_b
    by_cases hlt : i < l.length
    · rw [if_pos (by omega), some_eq (hs.lv 0 (by simp)) (by omega), bits7]; simp only [Option.bind_some]
      rw [scan_eq (fun j hj => hs.lv _ (in3 j hj)) (by simp)]; simp only [Option.bind_some, lt]
      have hf40 : (((l.getD i (⟨0, 0, false, 0⟩ : volumegrouplaw13_Try))).Fuse % (40 : UInt8)).toNat < 40 := by
        rw [UInt8.toNat_mod]; exact Nat.mod_lt _ (by decide)
      generalize (((l.getD i (⟨0, 0, false, 0⟩ : volumegrouplaw13_Try))).Fuse % (40 : UInt8)).toNat = f at hf40
      obtain ⟨g, hg, hgM, hgw⟩ := hs.great in3
      rw [grd_pos (inI64_of (by omega)), grd_pos (inI64_of (by omega)), grd_pos (decide_eq_true (by simp; omega))]
      have hS := hs.fuse (f := ((f : Nat) : Int).toNat)
      rw [some_eq (hS.lv 0 (by simp)) (by omega), bits7]; simp only [Option.bind_some]
      have hx := txt6_size (i := i)
      generalize txt6.getD i ByteArray.empty = x at hx ⊢
      have hr : rgR 30 = 28 := rfl
      rcases hS.commit (KK := 40 + 40 * (i + 1)) (g := g) (x := x) (range_dist 3) in3 (by simp) (by simp) hx (by omega) (by omega) (by omega) (by omega) hg (fun e he => by
        have h1 := hs.low e he
        obtain ⟨j, hj, hje⟩ := all3 he
        have := hgw j hj
        rw [hje] at this; omega) with ⟨t, c', t1, t2, -, -, -, -⟩ | ⟨-, sw, t, c', m', t1, t2, t3, -, -⟩
      · have t1' : copies_Commit (dks (List.range 3) 30) (greatR s (List.range 3) + 1) x { s with fuse := ((f : Nat) : Int).toNat } = some (true, 0, t) := t1
        rw [t1']; simp only [Option.bind_some]
        rw [if_neg (by decide), grd_pos (inI64_of (by omega))]
        exact agree_l1 h6 N (i + 1) _ c' (by omega) (by omega) (t2.fuse.mono (by omega) (by omega) (by omega)) rfl
      · have t1' : copies_Commit (dks (List.range 3) 30) (greatR s (List.range 3) + 1) x { s with fuse := ((f : Nat) : Int).toNat } = some (sw, 5, t) := t1
        rw [t1']; simp only [Option.bind_some]
        obtain ⟨ks, hks⟩ := keep_ok ((l.getD i (⟨0, 0, false, 0⟩ : volumegrouplaw13_Try))).Keep
        rw [if_pos (by decide), if_neg (by decide), hks]; simp only [Option.bind_some]
        rw [grd_pos (inLen_of (by omega)), grd_pos (inI64_of (by omega))]
        have := (t3 t.fuse ks).1
        exact agree_l1 h6 N (i + 1) _ c' (by omega) (by omega) (HI.mono (HI.fuse (s := rsS t ks) this) (by omega) (by omega) (by omega)) rfl
    · rw [if_neg (by omega)]
      exact ⟨s, c, rfl, hs.mono (by omega) (by omega) (by omega), hf⟩
theorem bits8a {v : Nat} (hv : 1 ≤ v ∧ v < 8) : (∀ i, i < (bitsL (v : Int) 3).length → (bitsL (v : Int) 3).getD i 0 < n30.length) ∧ 0 < (bitsL (v : Int) 3).length ∧ (bitsL (v : Int) 3).length ≤ 3 := by
  have hv8 : v = 1 ∨ v = 2 ∨ v = 3 ∨ v = 4 ∨ v = 5 ∨ v = 6 ∨ v = 7 := by omega
  rcases hv8 with rfl | rfl | rfl | rfl | rfl | rfl | rfl <;> exact ⟨by decide, by decide, by decide⟩
theorem agree_l2 {r : api_Copy × Int × ArrS} {ks : List Bool} {K M : Nat} {c : Nat → Txt} (hs : HI n30 K 30 M (rsS r.2.2 ks) c) (hc : ∀ e, e < 3 → r.1 = ⟨true, ((c e).q : Int), (c e).s⟩) : ∀ (N i : Nat), 8 - i < N → 1 ≤ i → volumegrouplaw13_CopiesAgree_l2 r ks N i = some (.inl ())
  | 0, _, h, _ => absurd h (by omega)
  | N + 1, i, h, h1 => by
    show volumegrouplaw13_CopiesAgree_l2_b _ _ _ _ = _
    unfold volumegrouplaw13_CopiesAgree_l2_b
    by_cases hlt : i < 8
    · obtain ⟨b1, b2, b3⟩ := bits8a ⟨h1, hlt⟩
      rw [if_pos (by omega), some_eq (hs.lv 0 (by simp)) (by omega)]; simp only [Option.bind_some]
      rw [scan_eq (fun j hj => hs.lv _ (b1 j hj)) (by omega)]; simp only [Option.bind_some]
      have hcl : (copiesR (rsS r.2.2 ks) 30 (bitsL (i : Int) 3)).length = (bitsL (i : Int) 3).length := by simp [copiesR]
      have hall : ∀ j, j < (copiesR (rsS r.2.2 ks) 30 (bitsL (i : Int) 3)).length → (copiesR (rsS r.2.2 ks) 30 (bitsL (i : Int) 3)).getD j zC = r.1 := fun j hj => by
        rw [hcl] at hj
        rw [hs.copies b1 hj, hc ((bitsL (i : Int) 3).getD j 0) (by have := b1 j hj; simpa using this)]
      rw [choose_same hall (by omega) (by omega) (by rw [hc 0 (by omega)]; try rfl)]; simp only [Option.bind_some]
      rw [if_neg (by decide), if_neg (by decide), grd_pos (decide_eq_true (by omega)), if_neg (fun x => x (hall 0 (by omega)))]
      exact agree_l2 hs hc N (i + 1) (by omega) (by omega)
    · rw [if_neg (by omega)]
theorem PCopiesAgree (l : List volumegrouplaw13_Try) (keep : UInt64) : volumegrouplaw13_CopiesAgree l keep = some true := by
  unfold volumegrouplaw13_CopiesAgree
  by_cases h6 : (6 : Int) < ((l.length : Nat) : Int)
  · rw [if_pos h6, awake13]; rfl
  · rw [if_neg h6, show volumegrouplaw13_areas (3 : Int) (30 : Int) = _ from areas_eq (m := 3) (n := 30) (by omega) (by omega)]; simp only [Option.bind_some, Option.elim]
    rw [some_eq (lvA_mkS (m := 3) (n := 30) (e := 0) (by omega) (by omega)) (by omega), bits7]; simp only [Option.bind_some]
    obtain ⟨t, c, t1, t2, t3, -⟩ := start_ok (m := 3) (n := 30) (x := ByteArray.mk #[102, 105, 114, 115, 116]) (by omega) (by omega) (by decide)
    rw [t1]; simp only [Option.bind_some]
    have hF := fuel_big
    rw [if_neg (by decide)]
    obtain ⟨u, c', u1, u2, u3⟩ := agree_l1 (l := l) (by omega) FUEL 0 t c (by omega) (by omega) t2 t3
    rw [u1]
    simp only [seqO, Option.bind_some, Sum.elim_inl]
    rw [some_eq (u2.lv 0 (by simp)) (by omega), bits7]; simp only [Option.bind_some]
    obtain ⟨g, hg, hgM, hgw⟩ := u2.great in3
    obtain ⟨k, k1, -, k3⟩ := u2.settle (g := g) in3 (by simp) (by simp) (by omega) hg
    have hr : rgR 30 = 28 := rfl
    rcases u2.commit (KK := 400) (g := g) (x := (c' ((List.range 3).getD k 0)).s) (range_dist 3) in3 (by simp) (by simp) (u2.sz _ (in3 k k1)) (by omega) (by omega) (by omega) (by omega) hg (fun e he => by
        have h1 := u2.low e he
        obtain ⟨j, hj, hje⟩ := all3 he
        have := hgw j hj
        rw [hje] at this; omega) with ⟨w, d, w1', w2, -, -, w5, -⟩ | ⟨w1', _⟩
    · rw [k3 _ w1']; simp only [Option.bind_some]
      obtain ⟨ks, hks⟩ := keep_ok keep
      have hwr := (w2.lv 0 (by simp)).ok.wr
      rw [if_neg (by decide), hks]; simp only [Option.bind_some]
      rw [grd_pos (inLen_of (by omega)), agree_l2 (c := d) (w2.rs (by simp) ks) (fun e he => ?_) FUEL 1 (by omega) (by omega)]
      · simp only [Option.bind_some, Sum.elim_inl]
        rw [awake13]; rfl
      · obtain ⟨e1, e2, -⟩ := w5 e (all3 (by simpa using he))
        rw [if_neg (by decide), e1, e2]
    · exact absurd u3 w1'
end Go.Proofs
