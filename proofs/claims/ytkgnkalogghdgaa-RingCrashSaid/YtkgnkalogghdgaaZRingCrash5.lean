/- RingCrash, part 5 of the proof: PRing3, PSpansA, PFlat0, PDk, LAw12, PRing4, PKeep, LRingCrash, PRingCrash. -/
import Derived.WalkKit
import Derived.Orders
import Derived.RangeFuncLeaves
import Derived.RangeFuncCalls
import Derived.TacticsIn
import Derived.Handy
import Derived.OrdersHeld
import Derived.OrdersIn
import Derived.Below
import Derived.OpenShut
import Derived.Deep.Slices
import Derived.Scope
import Derived.KernelRfl
import Derived.RangeFuncRecord
import Derived.ChangeKeysEq
import Derived.Laws.BytesArg
import Derived.ProofKit
import Derived.ShutString
import Derived.ChangeOld
import Derived.Test.YtkgnkalogghdgaaChecked
import Derived.Test.YtkgnkalogghdgaaRows
import Derived.Test.YtkgnkalogghdgaaZRingCrash4
namespace Go.Proofs
open Go.VG
structure Lv (ns : List Nat) (K d n : Nat) (s : ArrS) : Prop where
  ok : ArrOk ns K s
  dn : s.down = false
  hd : d < ns.length
  hn : ns.getD d 0 = n
  h4 : 4 ≤ n
  hb : n ≤ 1000
  ms : miss s d = false
  cl : ∀ b, b < n → cand s d b = [now s d b]
  hK : K ≤ 900000
theorem rg_le {n : Nat} (h4 : 4 ≤ n) (hb : n ≤ 1000) : 2 ≤ rgR n ∧ 2 + rgR n ≤ n ∧ rgR n = n - 2 := by unfold rgR; omega
section
variable {ns : List Nat} {K d n : Nat} {s : ArrS}
theorem open_eq (h4 : 4 ≤ n) (hb : n ≤ 1000) : ring_open (Dk d n) s = some (some (Dk d n), ((rgR n : Nat) : Int), 0) := by
  unfold ring_open
  rw [Dk.sz]; simp only [Option.bind_some]
  rw [if_neg (by omega), grd_pos (inI64_of (by omega))]
  have e : min ((n : Int) - (2 : Int)) (65535 : Int) = ((rgR n : Nat) : Int) := by unfold rgR; omega
  rw [e]
theorem sectors_drop {m st r i : Nat} (h : i < m) : (sectorsL (m : Int) (st : Int) (r : Int)).drop i = ((i : Int), ((plc r st i : Nat) : Int)) :: (sectorsL (m : Int) (st : Int) (r : Int)).drop (i + 1) := by
  have hl : i < (sectorsL (m : Int) (st : Int) (r : Int)).length := by rw [sectorsL_len]; omega
  rw [List.drop_eq_getElem_cons hl]
  congr 1
  simp only [sectorsL, List.getElem_map, List.getElem_range, Prod.mk.injEq, true_and]
  have e : ((st : Int) + (i : Int)) = ((st + i : Nat) : Int) := by omega
  unfold plc
  rw [e]
  omega
theorem sectors_end {m st r : Nat} : (sectorsL (m : Int) (st : Int) (r : Int)).drop m = [] := List.drop_eq_nil_of_le (by rw [sectorsL_len]; omega)
def readP (A : Nat → UInt64) (r st m i : Nat) : List UInt64 := (List.range m).map fun k => if k < i then A (plc r st k) else 0
theorem readP_zero {A : Nat → UInt64} {r st m : Nat} : List.replicate m (0 : UInt64) = readP A r st m 0 := List.ext_getElem (by simp [readP]) fun i h1 h2 => by simp [readP]
theorem readP_len {A : Nat → UInt64} {r st m i : Nat} : (readP A r st m i).length = m := by simp [readP]
theorem readP_full {A : Nat → UInt64} {r st m : Nat} : readP A r st m m = ringW A r st m := List.map_congr_left fun i hi => if_pos (List.mem_range.1 hi)
theorem readP_step {A : Nat → UInt64} {r st m i : Nat} : (readP A r st m i).set i (A (plc r st i)) = readP A r st m (i + 1) := by
  refine List.ext_getElem (by simp [readP]) fun k h1 h2 => ?_
  rw [List.getElem_set]
  split
  · rename_i e; subst e; simp [readP]
  · rename_i e
    simp only [readP, List.getElem_map, List.getElem_range]
    by_cases h3 : k < i
    · rw [if_pos h3, if_pos (by omega)]
    · rw [if_neg h3, if_neg (by omega)]
theorem Lv.rd (h : Lv ns K d n s) {k : Nat} (hk : k < n) : (Dk d n).rd s (k : Int) = some (now s d k, 0) := Dk.rd h.ok h.dn h.hd h.hn (by have := h.hb; omega) h.ms hk
theorem text_l1_eq (h : Lv ns K d n s) {st m : Nat} : ∀ (N i : Nat), m - i = N → i ≤ m → ring_area_text_l1 (Dk d n) s ((sectorsL (m : Int) (st : Int) ((rgR n : Nat) : Int)).drop i) (readP (now s d) (rgR n) st m i) = some (.inl (ringW (now s d) (rgR n) st m))
  | 0, i, hN, hi => by
    have e : i = m := by omega
    rw [e, sectors_end, readP_full]; rfl
  | N + 1, i, hN, hi => by
    obtain ⟨r1, r2, r3⟩ := rg_le h.h4 h.hb
    rw [sectors_drop (by omega)]
    show ring_area_text_l1_b _ _ _ _ _ = _
    unfold ring_area_text_l1_b
    have hp := plc_lt (r := rgR n) (st := st) (i := i) (by omega)
    simp only
    rw [h.rd (by omega)]; simp only [Option.bind_some]
    rw [if_neg (by simp), grd_pos (decide_eq_true (by rw [readP_len]; omega)), show (((i : Nat) : Int)).toNat = i by omega, readP_step]
    exact text_l1_eq h N (i + 1) (by omega) (by omega)
theorem area_text_eq (h : Lv ns K d n s) (w : UInt64) : ring_area_text (Dk d n) ((rgR n : Nat) : Int) w s = some ((wholeR (now s d) (rgR n) w).1, (wholeR (now s d) (rgR n) w).2, 0) := by
  obtain ⟨r1, r2, r3⟩ := rg_le h.h4 h.hb
  have hb := h.hb
  unfold ring_area_text wholeR
  rw [parts_eq]; simp only [Option.bind_some]
  simp only [nz_iff]
  have hiff : (((dQ w = 0 ∨ dN w = 0) ∨ ((rgR n : Nat) : Int) ≤ ((dS w).toNat : Int)) ∨ ((rgR n : Nat) : Int) < ((dN w).toNat : Int)) ↔ (dQ w = 0 ∨ dN w = 0 ∨ rgR n ≤ (dS w).toNat ∨ rgR n < (dN w).toNat) := by
    rw [Int.ofNat_le, Int.ofNat_lt, or_assoc, or_assoc]
  by_cases hc : dQ w = 0 ∨ dN w = 0 ∨ rgR n ≤ (dS w).toNat ∨ rgR n < (dN w).toNat
  · rw [if_pos (hiff.2 hc), if_pos hc]
  · rw [if_neg (fun x => hc (hiff.1 x)), if_neg hc]
    have c1 : (dS w).toNat < rgR n := Nat.lt_of_not_le fun x => hc (.inr (.inr (.inl x)))
    have c2 : (dN w).toNat ≤ rgR n := Nat.le_of_not_lt fun x => hc (.inr (.inr (.inr x)))
    rw [grd_pos (decide_eq_true (by omega))]
    unfold ring_area_sectors
    simp only [Option.bind_some]
    rw [grd_pos (decide_eq_true (by omega)), show ((((dN w).toNat : Nat) : Int)).toNat = (dN w).toNat by omega]
    have hl := text_l1_eq h (st := (dS w).toNat) (m := (dN w).toNat) (dN w).toNat 0 (by omega) (by omega)
    rw [List.drop_zero, ← readP_zero] at hl
    rw [hl]; simp only [Option.bind_some]
    show Option.bind (pack_FromText (ringW (now s d) (rgR n) (dS w).toNat (dN w).toNat)) _ = _
    rw [fromText_eq (by rw [ringW_len]; omega)]; simp only [Option.bind_some]
    by_cases h2 : (decT (ringW (now s d) (rgR n) (dS w).toNat (dN w).toNat)).2 = 0
    · rw [if_pos h2, check_eq _ (by rw [ringW_len]; omega)]; simp only [Option.bind_some]
      simp only [to_u64_self, h2, decide_true, Bool.true_and]
      congr 3
      rw [decide_eq_decide]
      rw [← UInt64.toNat_inj]
      omega
    · rw [if_neg h2]
      simp [h2]
noncomputable def readR (A : Nat → UInt64) (r : Nat) : api_Copy × Int :=
  open Classical in
  if A 0 = 0 then (⟨false, 0, ByteArray.empty⟩, 12) else if (wholeR A r (A 0)).2 = true then (⟨true, ((dQ (A 0)).toNat : Int), (wholeR A r (A 0)).1⟩, 0) else (⟨false, ((dQ (A 0)).toNat : Int), ByteArray.empty⟩, 11)
theorem read_eq (h : Lv ns K d n s) : ring_Read (Dk d n) s = some (readR (now s d) (rgR n)) := by
  have h4 := h.h4
  unfold ring_Read readR
  rw [open_eq h.h4 h.hb]; simp only [Option.bind_some]
  rw [if_neg (by simp)]; simp only [Option.elim]
  have hr := h.rd (k := 0) (by omega)
  have hr' : (Dk d n).rd s (0 : Int) = some (now s d 0, 0) := hr
  rw [hr']; simp only [Option.bind_some]
  rw [if_neg (by simp)]
  by_cases h0 : now s d 0 = 0
  · rw [if_pos h0, if_pos h0]
  · rw [if_neg h0, if_neg h0, area_text_eq h]; simp only [Option.bind_some]
    rw [if_neg (by simp)]
    by_cases hw : (wholeR (now s d) (rgR n) (now s d 0)).2 = true
    · rw [if_neg (by simpa using hw), if_pos hw, parts_eq]; rfl
    · rw [if_pos hw, if_neg hw, parts_eq]; rfl
structure Put1 (ns : List Nat) (K : Nat) (s : ArrS) (d k : Nat) (v : UInt64) (t : ArrS) : Prop where
  ok : ArrOk ns (K + 1) t
  dn : t.down = false
  fuse : t.fuse = s.fuse - 1
  miss : ∀ e, Go.Proofs.miss t e = Go.Proofs.miss s e
  now : ∀ e b, Go.Proofs.now t e b = if d = e ∧ k = b then v else Go.Proofs.now s e b
  cand : ∀ e b, e < ns.length → b < ns.getD e 0 → Go.Proofs.cand t e b = if d = e then [Go.Proofs.now t e b] else Go.Proofs.cand s e b
theorem Lv.put (h : Lv ns K d n s) {k : Nat} (hk : k < n) {v : UInt64} {pl : Int} :
    (s.fuse ≠ 1 ∧ ∃ t, ring_area_put (Dk d n) pl (k : Int) v s = some (0, t) ∧ Put1 ns K s d k v t) ∨ (s.fuse = 1 ∧ ∃ t, ring_area_put (Dk d n) pl (k : Int) v s = some (5, t) ∧ Fell ns K s t) := by
  have hb := h.hb; have hK := h.hK
  unfold ring_area_put
  rcases Dk.wr (v := v) h.ok (by omega) h.dn h.hd h.hn (by omega) h.ms hk with ⟨hf, t, w1, W1⟩ | ⟨hf, t, w1, W1⟩
  · rw [w1]; simp only [Option.bind_some]
    rw [if_neg (by simp)]
    obtain ⟨u, w2, W2⟩ := Dk.fl (n := n) W1.ok (by omega) W1.dn h.hd (by rw [W1.miss]; exact h.ms)
    rw [w2]; simp only [Option.bind_some]
    refine .inl ⟨hf, u, rfl, W2.ok, W2.dn, by rw [W2.fuse, W1.fuse], fun e => by rw [W2.miss, W1.miss], fun e b => by rw [W2.now, W1.now], fun e b he hb => ?_⟩
    rw [W2.cand e b he hb]
    by_cases hde : d = e
    · rw [if_pos hde, if_pos hde, W2.now]
    · rw [if_neg hde, if_neg hde, W1.cand, if_neg (fun x => hde x.1)]
  · rw [w1]; simp only [Option.bind_some]
    rw [if_pos (by simp)]
    exact .inr ⟨hf, t, rfl, W1⟩
theorem Put1.lv {t : ArrS} {k : Nat} {v : UInt64} (h : Lv ns K d n s) (hp : Put1 ns K s d k v t) (hK : K + 1 ≤ 900000) : Lv ns (K + 1) d n t :=
  ⟨hp.ok, hp.dn, h.hd, h.hn, h.h4, h.hb, by rw [hp.miss]; exact h.ms, fun b hb => by rw [hp.cand d b h.hd (by rw [h.hn]; exact hb), if_pos rfl], hK⟩
theorem Put1.nowD {t : ArrS} {k : Nat} {v : UInt64} (hp : Put1 ns K s d k v t) : Go.Proofs.now t d = upd (Go.Proofs.now s d) k v := by
  funext b
  rw [hp.now]
  unfold upd
  by_cases hb : b = k
  · rw [if_pos ⟨rfl, hb.symm⟩, if_pos hb]
  · rw [if_neg (fun x => hb x.2.symm), if_neg hb]
structure PutR (ns : List Nat) (K : Nat) (s : ArrS) (d r st : Nat) (l : List UInt64) (i : Nat) (t : ArrS) : Prop where
  ok : ArrOk ns (K + i) t
  dn : t.down = false
  fuse : t.fuse = s.fuse - i
  fz : s.fuse = 0 ∨ i < s.fuse
  miss : ∀ e, Go.Proofs.miss t e = Go.Proofs.miss s e
  now : ∀ e b, Go.Proofs.now t e b = if d = e then putN (Go.Proofs.now s d) r st l i b else Go.Proofs.now s e b
  cand : ∀ e b, (d = e → ∀ j, j < i → b ≠ plc r st j) → Go.Proofs.cand t e b = Go.Proofs.cand s e b
structure FellR (ns : List Nat) (K : Nat) (s : ArrS) (d r st m : Nat) (t : ArrS) : Prop where
  ok : ArrOk ns (K + m) t
  dn : t.down = true
  miss : ∀ e, Go.Proofs.miss t e = Go.Proofs.miss s e
  cand : ∀ e b, e < ns.length → b < ns.getD e 0 → (d = e → ∀ j, j < m → b ≠ plc r st j) → Go.Proofs.cand t e b = Go.Proofs.cand s e b
theorem prep_l2_eq (h : Lv ns K d n s) {st : Nat} {l : List UInt64} {e0 : Int} (hl : l.length ≤ 100000) : ∀ (N i : Nat) (t : ArrS), l.length - i = N → i ≤ l.length → PutR ns K s d (rgR n) st l i t →
    (∃ u, ring_Prepare_l2 (l, e0) (Dk d n) ((sectorsL (l.length : Int) (st : Int) ((rgR n : Nat) : Int)).drop i) t = some (.inl u) ∧ PutR ns K s d (rgR n) st l l.length u) ∨
    (s.fuse ≠ 0 ∧ s.fuse ≤ l.length ∧ ∃ u, ring_Prepare_l2 (l, e0) (Dk d n) ((sectorsL (l.length : Int) (st : Int) ((rgR n : Nat) : Int)).drop i) t = some (.inr (5, u)) ∧ FellR ns K s d (rgR n) st l.length u)
  | 0, i, t, hN, hi, ht => by
    have e : i = l.length := by omega
    subst e
    rw [sectors_end]
    exact .inl ⟨t, rfl, ht⟩
  | N + 1, i, t, hN, hi, ht => by
    obtain ⟨r1, r2, r3⟩ := rg_le h.h4 h.hb
    have hK := h.hK; have hb := h.hb
    rw [sectors_drop (by omega)]
    have hp := plc_lt (r := rgR n) (st := st) (i := i) (by omega)
    have e : ∀ z, ring_Prepare_l2 (l, e0) (Dk d n) (((i : Int), ((plc (rgR n) st i : Nat) : Int)) :: z) t = ring_Prepare_l2_b (l, e0) (Dk d n) (ring_Prepare_l2 (l, e0) (Dk d n) z) ((i : Int), ((plc (rgR n) st i : Nat) : Int)) t := fun _ => rfl
    rw [e]
    unfold ring_Prepare_l2_b
    simp only
    rw [grd_pos (decide_eq_true (by omega)), show (((i : Nat) : Int)).toNat = i by omega]
    rcases Dk.wr (v := l.getD i 0) ht.ok (by omega) ht.dn h.hd h.hn (by omega) (by rw [ht.miss]; exact h.ms) (k := plc (rgR n) st i) (by omega) with ⟨hf, u, w1, W1⟩ | ⟨hf, u, w1, W1⟩
    · rw [w1]; simp only [Option.bind_some]
      rw [if_neg (by simp)]
      have hfz := ht.fz; have hfu := ht.fuse
      refine prep_l2_eq h hl N (i + 1) u (by omega) (by omega) ⟨W1.ok, W1.dn, by rw [W1.fuse, ht.fuse]; omega, by omega, fun e => by rw [W1.miss, ht.miss], fun e b => ?_, fun e b hne => ?_⟩
      · rw [W1.now, ht.now]
        by_cases hde : d = e
        · rw [if_pos hde, if_pos hde]
          show _ = upd _ _ _ b
          unfold upd
          by_cases hbp : plc (rgR n) st i = b
          · rw [if_pos ⟨hde, hbp⟩, if_pos hbp.symm]
          · rw [if_neg (fun x => hbp x.2), if_neg (fun x => hbp x.symm)]
        · rw [if_neg (fun x => hde x.1), if_neg hde, if_neg hde]
      · rw [W1.cand, if_neg (fun x => hne x.1 i (by omega) x.2.symm), ht.cand e b (fun hde j hj => hne hde j (by omega))]
    · rw [w1]; simp only [Option.bind_some]
      rw [if_pos (by simp)]
      have hfz := ht.fz; have hfu := ht.fuse
      refine .inr ⟨by omega, by omega, u, rfl, W1.ok.mono (by omega), W1.dn, fun e => by rw [W1.miss, ht.miss], fun e b _ _ hne => ?_⟩
      rw [W1.cand, ht.cand e b (fun hde j hj => hne hde j (by omega))]
structure Prepd (ns : List Nat) (K : Nat) (s : ArrS) (d n st : Nat) (q : Nat) (x : ByteArray) (t : ArrS) : Prop where
  ok : ArrOk ns (K + (encT x).length + 1) t
  dn : t.down = false
  fuse : t.fuse = s.fuse - ((encT x).length + 1)
  miss : ∀ e, Go.Proofs.miss t e = Go.Proofs.miss s e
  now : ∀ e b, Go.Proofs.now t e b = if d = e then upd (putN (Go.Proofs.now s d) (rgR n) st (encT x) (encT x).length) 1 (descT q st x) b else Go.Proofs.now s e b
  cand : ∀ e b, e < ns.length → b < ns.getD e 0 → Go.Proofs.cand t e b = if d = e then [Go.Proofs.now t e b] else Go.Proofs.cand s e b
def oldS (w : UInt64) : Nat := if w = 0 then 0 else (dS w).toNat
def oldN (w : UInt64) : Nat := if w = 0 then 0 else (dN w).toNat
theorem prep_out (h : Lv ns K d n s) (hK8 : K ≤ 800000) {q : Nat} {x : ByteArray} (hq : 1 ≤ q ∧ q ≤ 1048575) (hx : x.size ≤ 8192) (hw : now s d 0 ≠ 0 → (wholeR (now s d) (rgR n) (now s d 0)).2 = true) :
    (rgR n < (encT x).length + oldN (now s d 0) ∧ ring_Prepare (Dk d n) (q : Int) x s = some (14, s)) ∨
    ((encT x).length + oldN (now s d 0) ≤ rgR n ∧ ((∃ t, ring_Prepare (Dk d n) (q : Int) x s = some (0, t) ∧ Prepd ns K s d n ((oldS (now s d 0) + oldN (now s d 0)) % rgR n) q x t) ∨
      (s.fuse ≠ 0 ∧ s.fuse ≤ (encT x).length + 1 ∧ ∃ t, ring_Prepare (Dk d n) (q : Int) x s = some (5, t) ∧ FellR ns K s d (rgR n) ((oldS (now s d 0) + oldN (now s d 0)) % rgR n) (encT x).length t))) := by
  obtain ⟨r1, r2, r3⟩ := rg_le h.h4 h.hb
  have h4 := h.h4; have hb := h.hb; have hK := h.hK
  have hE := encT_lt hx
  have hr : (Dk d n).rd s (0 : Int) = some (now s d 0, 0) := h.rd (k := 0) (by omega)
  have hfS : (dS (now s d 0)).toNat < 2 ^ 16 := fieldU_lt _ _ _
  have hfN : (dN (now s d 0)).toNat < 2 ^ 12 := fieldU_lt _ _ _
  have hoS : oldS (now s d 0) < 2 ^ 16 := by unfold oldS; split <;> omega
  have hoN : oldN (now s d 0) < 2 ^ 12 := by unfold oldN; split <;> omega
  -- what is old
  have hold : ∃ a c : Int, (if now s d 0 ≠ (0 : UInt64) then
              Option.bind (ring_area_text (Dk d n) ((rgR n : Nat) : Int) (now s d 0) s) fun r30 =>
              if (r30.2.2 ≠ (0 : Int)) then
                some (.inr (r30.2.2, s))
              else
                if (¬ r30.2.1 = true) then
                  some (.inr (((11 : Int), s)))
                else
                  Option.bind (ring_descriptor_parts (now s d 0)) fun r32 =>
                  some (.inl (r32.seq, r32.start, r32.length, r32.sum))
            else
              some (.inl ((0 : Int), (0 : Int), (0 : Int), (0 : Int))) : Option ((Int × Int × Int × Int) ⊕ (Int × ArrS))) = some (.inl (a, ((oldS (now s d 0) : Nat) : Int), ((oldN (now s d 0) : Nat) : Int), c)) := by
    by_cases h0 : now s d 0 = 0
    · refine ⟨0, 0, ?_⟩
      rw [if_neg (fun x => x h0)]
      unfold oldS oldN
      rw [if_pos h0, if_pos h0]; rfl
    · refine ⟨((dQ (now s d 0)).toNat : Int), ((dC (now s d 0)).toNat : Int), ?_⟩
      rw [if_pos h0, area_text_eq h]; simp only [Option.bind_some]
      rw [if_neg (by simp), if_neg (by simp [hw h0]), parts_eq]
      unfold oldS oldN
      rw [if_neg h0, if_neg h0]; rfl
  obtain ⟨ha, hc, hold⟩ := hold
  unfold ring_Prepare
  rw [open_eq h.h4 h.hb]; simp only [Option.bind_some]
  rw [if_neg (by simp), if_neg (by omega), text_eq, if_neg (by omega)]; simp only [Option.bind_some]
  rw [if_neg (by simp)]; simp only [Option.elim]
  rw [hr]; simp only [Option.bind_some]
  rw [if_neg (by simp), hold]
  show (_ ∧ grd _ _ = _) ∨ (_ ∧ ((∃ t, grd _ _ = _ ∧ _) ∨ (_ ∧ _ ∧ ∃ t, grd _ _ = _ ∧ _)))
  dsimp only
  rw [grd_pos (inI64_of (by omega))]
  by_cases hsp : rgR n < (encT x).length + oldN (now s d 0)
  · rw [if_pos (by omega)]
    exact .inl ⟨hsp, rfl⟩
  · rw [if_neg (by omega), grd_pos (inI64_of (by omega)), grd_pos (decide_eq_true (by omega))]
    refine .inr ⟨by omega, ?_⟩
    have e1 : (((oldS (now s d 0) : Nat) : Int) + ((oldN (now s d 0) : Nat) : Int)) = ((oldS (now s d 0) + oldN (now s d 0) : Nat) : Int) := by omega
    rw [e1, tmodN]
    have hst := Nat.mod_lt (oldS (now s d 0) + oldN (now s d 0)) (show 0 < rgR n by omega)
    generalize hst' : (oldS (now s d 0) + oldN (now s d 0)) % rgR n = st at hst ⊢
    rw [check_eq _ (by omega)]; simp only [Option.bind_some]
    unfold ring_area_sectors
    simp only [Option.bind_some]
    rw [grd_pos (decide_eq_true (by omega))]
    have h0 : PutR ns K s d (rgR n) st (encT x) 0 s := ⟨h.ok, h.dn, by omega, by omega, fun _ => rfl, fun e b => by
      by_cases hde : d = e
      · rw [if_pos hde, ← hde]; rfl
      · rw [if_neg hde], fun _ _ _ => rfl⟩
    rcases prep_l2_eq h (e0 := 0) (by omega) _ 0 s rfl (Nat.zero_le _) h0 with ⟨t, w1, W1⟩ | ⟨hf1, hf2, t, w1, W1⟩
    · rw [List.drop_zero] at w1
      rw [w1]; simp only [Option.bind_some]
      show (∃ t', (Option.bind ((Dk d n).fl t) fun r65 => _) = _ ∧ _) ∨ (_ ∧ _ ∧ ∃ t', (Option.bind ((Dk d n).fl t) fun r65 => _) = _ ∧ _)
      obtain ⟨u, w2, W2⟩ := Dk.fl (n := n) W1.ok (by omega) W1.dn h.hd (by rw [W1.miss]; exact h.ms)
      rw [w2]; simp only [Option.bind_some]
      rw [if_neg (by simp), partsWord_eq (p := ⟨(q : Int), (st : Int), (((encT x).length : Nat) : Int), ((sumW (to_u64 (q : Int)) (to_u64 (st : Int)) (to_u64 (((encT x).length : Nat) : Int)) (encT x)).toNat : Int)⟩) (to_u64_lt (by omega) (by omega)) (to_u64_lt (by omega) (by omega)) (to_u64_lt hE (by omega)) (by rw [to_u64_self]; exact sumW_lt)]
      simp only [Option.bind_some, to_u64_self]
      have hLu : Lv ns (K + (encT x).length) d n u := ⟨W2.ok, W2.dn, h.hd, h.hn, h.h4, h.hb, by rw [W2.miss, W1.miss]; exact h.ms, fun b hb => by rw [W2.cand d b h.hd (by rw [h.hn]; exact hb), if_pos rfl, W2.now], by omega⟩
      have hfz := W1.fz; have hfu := W1.fuse; have hfu2 := W2.fuse
      rcases hLu.put (k := 1) (by omega) (v := descT q st x) (pl := ((rgR n : Nat) : Int)) with ⟨hf3, v, w3, W3⟩ | ⟨hf3, v, w3, W3⟩
      · have w3' : ring_area_put (Dk d n) ((rgR n : Nat) : Int) (1 : Int) (descW (to_u64 (q : Int)) (to_u64 (st : Int)) (to_u64 (((encT x).length : Nat) : Int)) (sumW (to_u64 (q : Int)) (to_u64 (st : Int)) (to_u64 (((encT x).length : Nat) : Int)) (encT x))) u = some (0, v) := w3
        rw [w3']; simp only [Option.bind_some]
        refine .inl ⟨v, rfl, W3.ok, W3.dn, by have := W3.fuse; omega, fun e => by rw [W3.miss, W2.miss, W1.miss], fun e b => ?_, fun e b he hb => ?_⟩
        · rw [W3.now, W2.now, W1.now]
          by_cases hde : d = e
          · rw [if_pos hde, if_pos hde]
            unfold upd
            by_cases hb1 : b = 1
            · rw [if_pos ⟨hde, hb1.symm⟩, if_pos hb1]
            · rw [if_neg (fun x => hb1 x.2.symm), if_neg hb1]
          · rw [if_neg (fun x => hde x.1), if_neg hde, if_neg hde]
        · rw [W3.cand e b he hb]
          by_cases hde : d = e
          · rw [if_pos hde, if_pos hde]
          · rw [if_neg hde, if_neg hde, W2.cand e b he hb, if_neg hde, W1.cand e b (fun x => absurd x hde)]
      · have w3' : ring_area_put (Dk d n) ((rgR n : Nat) : Int) (1 : Int) (descW (to_u64 (q : Int)) (to_u64 (st : Int)) (to_u64 (((encT x).length : Nat) : Int)) (sumW (to_u64 (q : Int)) (to_u64 (st : Int)) (to_u64 (((encT x).length : Nat) : Int)) (encT x))) u = some (5, v) := w3
        rw [w3']; simp only [Option.bind_some]
        refine .inr ⟨by omega, by omega, v, rfl, W3.ok, W3.dn, fun e => by rw [W3.miss, W2.miss, W1.miss], fun e b he hb hne => ?_⟩
        rw [W3.cand, W2.cand e b he hb]
        by_cases hde : d = e
        · have hne' := hne hde
          subst hde
          rw [if_pos rfl, W1.now, if_pos rfl, putN_out hne', h.cl b (by rw [h.hn] at hb; exact hb)]
        · rw [if_neg hde, W1.cand e b (fun x => absurd x hde)]
    · rw [List.drop_zero] at w1
      rw [w1]; simp only [Option.bind_some]
      exact .inr ⟨hf1, by omega, t, rfl, W1⟩
end
end Go.Proofs
namespace Go.Proofs
open Go.VG
theorem spans_l1 {s : ArrS} (h8 : s.drv.length ≤ 1000) (hz : ∀ i, i < s.drv.length → 1 ≤ s.size i ∧ s.size i ≤ 65536) : ∀ (N i : Nat) (acc : List Dvc), s.drv.length - i < N → i ≤ s.drv.length →
    acc = (List.range i).map (fun i => Dvc.span ((i : Nat) : Int) 0 ((s.size i : Nat) : Int)) → volumegroupmake_Spans_l1 s N acc i = some (.inl (spansA s))
  | 0, _, _, h, _, _ => absurd h (by omega)
  | N + 1, i, acc, h, hi, ha => by
    show volumegroupmake_Spans_l1_b _ _ _ _ = _
    unfold volumegroupmake_Spans_l1_b
    subst ha
    by_cases hlt : i < s.drv.length
    · have h1 := hz i hlt
      rw [if_pos (by omega), sizeI_of hlt, span_mk (by omega) (by omega) (by rw [sizeI_of hlt]; omega) (by rw [sizeI_of hlt]; omega)]
      simp only [Option.bind_some, Option.elim]
      rw [if_neg (by simp), grd_t (inLen_of (by simp; omega)), grd_t (inN64_of (by omega))]
      refine spans_l1 h8 hz N (i + 1) _ (by omega) (by omega) ?_
      simp [List.range_succ]
    · rw [if_neg (by omega)]
      have : i = s.drv.length := by omega
      rw [this]; rfl
theorem spans_eq {s : ArrS} (h8 : s.drv.length ≤ 1000) (hz : ∀ i, i < s.drv.length → 1 ≤ s.size i ∧ s.size i ≤ 65536) : volumegroupmake_Spans s = some (spansA s) := by
  unfold volumegroupmake_Spans
  have hF := fuel_big
  generalize FUEL = N at hF ⊢
  rw [spans_l1 h8 hz N 0 _ (by omega) (by omega) (by simp)]; rfl
end Go.Proofs
namespace Go.Proofs
open Go.VG
def lensN (ims : List (List UInt64)) : List Nat := ims.map List.length
theorem lensN_getD {ims : List (List UInt64)} {i : Nat} : (lensN ims).getD i 0 = (ims.getD i []).length := by
  simp only [lensN, List.getD, List.getElem?_map]; cases ims[i]? <;> rfl
@[simp] theorem lensN_length {ims : List (List UInt64)} : (lensN ims).length = ims.length := by simp [lensN]
theorem inSz_mkS {ims : List (List UInt64)} : InSz (lensN ims) (mkS ims) := ⟨by simp, fun d _ => by rw [size_nowL, nowL_mkS, lensN_getD], Nat.zero_le _⟩
end Go.Proofs
namespace Go.Proofs
open Go.VG
section
variable {ns : List Nat} {K d n : Nat} {s : ArrS}
theorem miss_mkS {ims : List (List UInt64)} {d : Nat} : miss (mkS ims) d = false := good_mkS.miss d
theorem now_mkS1 {im : List UInt64} {b : Nat} : now (mkS [im]) 0 b = im.getD b 0 := rfl
theorem spans_one {s : ArrS} {n : Nat} (h : InSz [n] s) (hn : 1 ≤ n ∧ n ≤ 65536) : volumegroupmake_Spans s = some [Dk 0 n] := by
  have hc : s.drv.length = 1 := h.cnt
  have hz : s.size 0 = n := h.size 0 (by simp)
  rw [spans_eq (by omega) (fun i hi => by
    obtain rfl : i = 0 := by omega
    rw [hz]; exact hn)]
  show some ((List.range s.drv.length).map _) = _
  rw [hc]
  show some [Dvc.span ((0 : Nat) : Int) 0 ((s.size 0 : Nat) : Int)] = _
  rw [hz]
theorem cand_mkS {ims : List (List UInt64)} {d b : Nat} : cand (mkS ims) d b = [now (mkS ims) d b] := by
  show dur _ _ _ :: [] = _
  unfold dur now durL nowL
  simp only [mkS, List.getD, List.getElem?_map]
  cases ims[d]? <;> rfl
end
end Go.Proofs
set_option linter.unusedSimpArgs false
set_option linter.unusedVariables false
set_option maxRecDepth 20000
set_option maxHeartbeats 4000000
namespace Go.Proofs
open Go.VG
theorem bs_62_1_0 (v0 : (Option Addr)) (v1 : Nat) (v2 : Nat) : BuildsSlice Try.prog 62 1 [(0, .slice v0 v1 v2)] 29 [.slice v0 v1 v2] := fun w => by kernel_rfl
theorem eqs_34 : EqsAt Try.prog 34 (fun x => .agg ((tyapi_Copy).enc x).toArray) := eqs_struct (enc := (tyapi_Copy).enc) (by kernel_rfl) (by kernel_rfl) (fun x y => [(x.Valid == y.Valid), (x.Seq == y.Seq), (x.Text.toList == y.Text.toList)]) (fun x y => ⟨by decide, ⟨.bool x.Valid, .bool y.Valid, fun _ => by kernel_rfl, fun _ => by kernel_rfl, fun w => run_equalIn_bool' w 9998 4 _ _ Try.underlying4⟩, ⟨by decide, ⟨.int .i64 x.Seq, .int .i64 y.Seq, fun _ => by kernel_rfl, fun _ => by kernel_rfl, fun w => run_equalIn_int w 9998 3 _ _ _ _ Try.underlying3⟩, ⟨by decide, ⟨.string x.Text, .string y.Text, fun _ => by kernel_rfl, fun _ => by kernel_rfl, fun w => run_equalIn_string w 9998 9 _ _ Try.underlying9⟩, trivial⟩⟩⟩) (fun x y => by
  rw [Bool.eq_iff_iff]
  simp only [str_ibeq, List.all_cons, List.all_nil, id, Bool.and_true, Bool.and_eq_true, decide_eq_true_eq, beq_iff_eq, api_Copy.ext_iff])
def volumegrouplaw12_area (words : List UInt64) : Option ((Option ArrS) × (Option Dvc)) :=
  Option.bind (volumegroupmake_Loaded (([words] : List (List UInt64)))) fun r6 =>
  Option.elim r6 (
    some (none, none)) fun o11 =>
  Option.bind (volumegroupmake_Spans o11) fun r12 =>
  if (((r12.length : Nat) : Int) ≠ (1 : Int)) then
    some (none, none)
  else
    some (((some o11), (some (r12.getD 0 dv0))))
theorem L_volumegrouplaw12_area {W : World} {Awords : HP} {vwords : Value} {words : List UInt64} {r : (Option ArrS) × (Option Dvc)} (rwords : Reads Awords tyU vwords words) (h : volumegrouplaw12_area words = some r) :
    CSpec Try.prog W 15 [vwords] [Awords] (fun x : Nat × IfH => .tuple #[oval r.1 x.1, oif r.2 x.2]) (fun _ => True) (fun x F => Awords :: optP (Arr x.1) r.1 :: optP (DevP x.1 · x.2) r.2 :: F) := by
 refine CSpec.of_body Try.func15 rfl Try.ntmps15 rfl fun F => ?_
 show CJ _ _ _ _ _ _ (_ :: F)
 unfold volumegrouplaw12_area at h
 refine CJ_pure (len_of rwords del0) fun hlen1 => sR <| oA rfl rfl <| oA rfl rfl <| nT <| sR <| oM rfl rfl <| RJ_pure (reads_sl3 rwords del0) fun hsv3 => ?_
 obtain ⟨sv2, hsv3⟩ := hsv3
 subst hsv3
 refine oO <| O_buildSlice rfl (bs_62_1_0 _ _ _) rfl fun b4 => RJ_ent (Ent.trans (t0_ eR) (sl_of_lit (t := tyRow) (m := 1) [sv2] rfl rfl rfl (by decide))) <| RJ_ent (Ent.starI (l := [Awords]) (t1_ eR)) ?_
 obtain ⟨r6, hr7, h⟩ := bind_e h
 refine oO <| O_call (L_volumegroupmake_Loaded (Reads.sl _ _ _) (RowsR.cons rwords RowsR.nil) hr7) rfl Try.call36 (Dels.cons del1 (Dels.cons del0 Dels.nil)) rfl fun X8 _ => RJ_ent (Ent.trans (t1_ eR) (Ent.starE (l := [Awords]) eR)) <| oA rfl rfl <| nT <| CJ_seq <| sR <| oM rfl rfl ?_
 rcases opt_e h with ⟨ht10, h⟩ | ⟨o11, ht10, h⟩
 ·
  rw [ht10]
  refine RJ_ent (t0_ (t0_ (eD eR))) <| oP (P_eqlNN rfl rfl Try.underlying24) rfl <| nT <| CJ_condT rfl rfl <| sR <| oA rfl rfl <| oA rfl rfl <| nT <| CJ_ret <| QJ_then_ret ?_
  cases h
  exact fE (res2 Try.results15 rfl rfl) ⟨0, ⟨0, .bool false⟩⟩ (t0_ (Ent.trans (fun h hh => optP_none h hh) <| t0_ (Ent.trans (fun h hh => optP_none h hh) <| t0_ (eD eR))))
 ·
  rw [ht10]
  refine RJ_ent (Ent.takeC (A' := Arr X8 o11) del2 rfl eR) <| oP (P_eqlPN rfl rfl Try.underlying24) rfl <| nT <| CJ_condF rfl rfl <| kT <| sR <| oM rfl rfl ?_
  obtain ⟨r12, hr13, h⟩ := bind_e h
  refine oO <| O_call (L_volumegroupmake_Spans hr13) rfl Try.call37 (Dels.cons del0 Dels.nil) rfl fun X14 _ => RJ_pure (fun h hh => Rs_len (stars_perm (del2 (A := Rs (DevP X8) r12 X14.2)).out h hh)) fun hdl17 => oA rfl rfl <| nT <| CJ_seq <| sR <| oM rfl rfl <| oV (VJ_eq (V_len rfl foc1 (Reads.sl _ _ _) Try.runUnderlying67) (congrArg (fun z : Nat => Value.int .i64 (z : Int)) (hdl17).symm)) rfl <| oP (P_neq (a := ((r12.length : Nat) : Int)) (b := (1 : Int)) rfl rfl) rfl <| nT <| CJ_condP rfl bT_dec (fun hg1 => ?_) (fun hg1 => ?_)
  ·
   replace h := ite_t hg1 h
   refine sR <| oA rfl rfl <| oA rfl rfl <| nT <| CJ_ret <| QJ_then_ret ?_
   cases h
   exact fE (res2 Try.results15 rfl rfl) ⟨0, ⟨0, .bool false⟩⟩ (t3_ (Ent.trans (fun h hh => optP_none h hh) <| t0_ (Ent.trans (fun h hh => optP_none h hh) <| t0_ (eD (eD (eD (eD eR)))))))
  ·
   replace h := ite_f hg1 h
   refine kT <| CJ_seq <| AJ_startH 0 (by kernel_rfl) rfl <| aN 0 1 rfl rfl (P_move rfl) rfl <| aN 1 3 rfl rfl (P_move rfl) rfl <| aV 2 7 rfl rfl (GY_none rfl) eR (V_index (i := 0) rfl rfl rfl (by have hz : 0 < r12.length := (by omega); have hy := hdl17; omega) foc1 (Reads.sl _ _ _) Try.runUnderlying67 Try.sizeOf26) rfl <| AJ_ent (Ent.trans (t2_ eR) (Rs_at (fun _ _ => Dup_DevP) (dx := dv0) (dh := tyDev.dflt) (i := 0) (by omega))) <| aV 3 15 rfl rfl (GY_none rfl) (t2_ (t2_ (t1_ (t1_ (t1_ (eD eR)))))) (V_loadE rfl rfl (by have hz : 0 < r12.length := (by omega); have hy := hdl17; omega) foc1 (Reads.sl _ _ _) rfl rfl Try.isAgg26) rfl <| aN 4 31 rfl rfl (P_assign rfl) rfl <| aN 5 63 rfl rfl (P_assign rfl) rfl <| aD <| CJ_ret ?_
   cases h
   exact fE (res2 Try.results15 rfl rfl) ⟨X8, (X14.2.getD 0 tyDev.dflt)⟩ (t4_ (t2_ (t0_ (eD (eD (eD eR))))))
def volumegrouplaw12_awake : Option (Bool) :=
  Option.bind (volumegrouplaw12_area ((List.replicate 12 (0 : UInt64)))) fun r2 =>
  Option.elim r2.2 (
    some false) fun o8 =>
  Option.elim r2.1 (
    none) fun o10 =>
  Option.bind (ring_Prepare o8 (5 : Int) (ByteArray.mk #[115, 111, 109, 101, 32, 116, 101, 120, 116]) o10) fun r11 =>
  if (r11.1 ≠ (0 : Int)) then
    some false
  else
    Option.bind (ring_Read o8 r11.2) fun r13 =>
    Option.bind (ring_Switch o8 r11.2) fun r16 =>
    Option.bind (ring_Read o8 r16.2) fun r18 =>
    if (((r13.2 = (12 : Int)) ∧ (r16.1 = (0 : Int))) ∧ (r18.2 = (0 : Int))) then
      some ((decide (r18.1 = (⟨true, (5 : Int), (ByteArray.mk #[115, 111, 109, 101, 32, 116, 101, 120, 116])⟩ : api_Copy))))
    else
      some false
theorem L_volumegrouplaw12_awake {W : World} {r : Bool} (h : volumegrouplaw12_awake = some r) :
    CSpec Try.prog W 14 [] [] (fun x : Unit => .bool r) (fun _ => True) (fun x F => F) := by
 refine CSpec.of_body Try.func14 rfl Try.ntmps14 rfl fun F => ?_
 show CJ _ _ _ _ _ _ (F)
 unfold volumegrouplaw12_awake at h
 refine sR <| oA rfl rfl <| nT <| sR <| oO <| O_make (t := tyU) (m := 12) (x0 := 0) (z := _) (bytes := _) rfl rfl rfl rfl Try.underlying29 ⟨Try.t39, by kernel_rfl, rfl, rfl, rfl⟩ rfl (by omega) (by decide) rfl fun b1 => ?_
 obtain ⟨r2, hr3, h⟩ := bind_e h
 refine oO <| O_call (L_volumegrouplaw12_area (Reads.sl _ _ _) hr3) rfl Try.call15 (Dels.cons del0 Dels.nil) rfl fun X4 _ => oM rfl rfl <| oP (P_extract rfl rfl) rfl <| oP (P_extract rfl rfl) rfl <| oA rfl rfl <| oA rfl rfl <| nT <| CJ_seq <| sR <| oM rfl rfl ?_
 rcases opt_e h with ⟨ht7, h⟩ | ⟨o8, ht7, h⟩
 ·
  rw [ht7]
  refine RJ_ent (t0_ (t0_ (eD eR))) <| oP (P_eqlIN rfl Try.underlying26) rfl <| oM rfl rfl <| RJ_gn (GY_no rfl rfl rfl rfl) rfl rfl <| RJ_gn (GY_no rfl rfl rfl rfl) rfl rfl <| RJ_gn (GY_no rfl rfl rfl rfl) rfl rfl <| oP (P_pickT rfl rfl rfl) rfl <| nT <| CJ_condT rfl rfl <| sR <| oA rfl rfl <| nT <| CJ_ret <| QJ_then_ret ?_
  cases h
  exact fE (res1 Try.results14 rfl) () (eD (eD eR))
 ·
  rw [ht7]
  refine RJ_ent (Ent.takeC (A' := DevP X4.1 o8 X4.2) del2 rfl eR) <| oP (P_eqlIfN rfl rfl Try.underlying26) rfl <| oM rfl rfl <| gP (GY_yes rfl rfl rfl rfl) (P_move rfl) rfl ?_
  rcases opt_e h with ⟨ht9, h⟩ | ⟨o10, ht9, h⟩
  ·
   rw [ht9]
   exact RJ_ent (t0_ (t0_ (eD eR))) <| none_e h
  ·
   rw [ht9]
   refine RJ_ent (Ent.takeC (A' := Arr X4.1 o10) del2 rfl eR) ?_
   obtain ⟨r11, hr12, h⟩ := bind_e h
   refine RJ_gy (GY_yes rfl rfl rfl rfl) <| O_call (L_ring_Prepare hr12) rfl Try.call16 (Dels.cons del1 (Dels.cons del0 Dels.nil)) rfl fun _ _ => gP (GY_yes rfl rfl rfl rfl) (P_neq (a := r11.1) (b := (0 : Int)) rfl rfl) rfl <| oP (P_pickF rfl rfl rfl) rfl <| nT <| CJ_condP rfl bT_dec (fun hg1 => ?_) (fun hg1 => ?_)
   ·
    replace h := ite_t hg1 h
    refine sR <| oA rfl rfl <| nT <| CJ_ret <| QJ_then_ret ?_
    cases h
    exact fE (res1 Try.results14 rfl) () (eD (eD (eD eR)))
   ·
    replace h := ite_f hg1 h
    refine kT <| sR <| oM rfl rfl ?_
    obtain ⟨r13, hr14, h⟩ := bind_e h
    refine oO <| O_call (L_ring_Read hr14) rfl Try.call18 (Dels.cons del0 (Dels.cons del0 Dels.nil)) rfl fun _ _ => oM rfl rfl <| oP (P_extract rfl rfl) rfl <| oP (P_extract rfl rfl) rfl <| oO <| O_alloc Try.zeroValue34 rfl rfl fun b15 => oO <| O_storeN rfl rfl foc0 Try.sizeOf34 rfl rfl rfl <| oA rfl rfl <| nT <| sR <| oM rfl rfl ?_
    obtain ⟨r16, hr17, h⟩ := bind_e h
    refine oO <| O_call (L_ring_Switch hr17) rfl Try.call17 (Dels.cons del1 (Dels.cons del1 Dels.nil)) rfl fun _ _ => oA rfl rfl <| nT <| sR <| oM rfl rfl ?_
    obtain ⟨r18, hr19, h⟩ := bind_e h
    refine oO <| O_call (L_ring_Read hr19) rfl Try.call18 (Dels.cons del0 (Dels.cons del0 Dels.nil)) rfl fun _ _ => oM rfl rfl <| oP (P_extract rfl rfl) rfl <| oP (P_extract rfl rfl) rfl <| oO <| O_alloc Try.zeroValue34 rfl rfl fun b20 => oO <| O_storeN rfl rfl foc0 Try.sizeOf34 rfl rfl rfl <| oA rfl rfl <| nT <| sR <| oM rfl rfl <| oP (P_eql (a := r13.2) (b := (12 : Int)) rfl rfl) rfl <| oM rfl rfl <| RJ_mbT rfl rfl rfl (fun hG21 => have hP22 : (r13.2 = (12 : Int)) := (bT_dec).1 hG21; VJ_P (P_move rfl)) <| RJ_mbT rfl rfl rfl (fun hG23 => have hP24 : (r13.2 = (12 : Int)) := (bT_dec).1 hG23; VJ_P (P_eql (a := r16.1) (b := (0 : Int)) (mbx hG23 rfl) rfl)) <| oP (P_pickAnd rfl (fun hh => mbx hh rfl) rfl) rfl <| oM rfl rfl <| RJ_mbT rfl rfl rfl (fun hG25 => have hP26 : ((r13.2 = (12 : Int)) ∧ (r16.1 = (0 : Int))) := ((bT_and bT_dec bT_dec)).1 hG25; VJ_P (P_move rfl)) <| RJ_mbT rfl rfl rfl (fun hG27 => have hP28 : ((r13.2 = (12 : Int)) ∧ (r16.1 = (0 : Int))) := ((bT_and bT_dec bT_dec)).1 hG27; VJ_P (P_eql (a := r18.2) (b := (0 : Int)) (mbx hG27 rfl) rfl)) <| oP (P_pickAnd rfl (fun hh => mbx hh rfl) rfl) rfl <| oM rfl rfl <| RJ_splitP 42 rfl (bT_and (bT_and bT_dec bT_dec) bT_dec) (fun hg2B hg2 => ?_) (fun hg2B hg2 => ?_)
    ·
     replace h := ite_t hg2 h
     refine gV (GY_yes rfl rfl rfl hg2B) (V_loadN rfl foc0 Try.isAgg34 Try.sizeOf34 rfl rfl) rfl <| gP (GY_yes rfl rfl rfl hg2B) (P_build rfl (bld_34_0_1_2 _ _ _)) rfl <| gP (GY_yes rfl rfl rfl hg2B) (P_eqlS (enc := (tyapi_Copy).enc) (r18.1) ((⟨true, (5 : Int), (ByteArray.mk #[115, 111, 109, 101, 32, 116, 101, 120, 116])⟩ : api_Copy)) rfl rfl eqs_34 (by kernel_rfl)) rfl <| oP (P_pickT rfl hg2B rfl) rfl <| oA rfl rfl <| nT <| CJ_ret ?_
     cases h
     exact fE (res1 Try.results14 rfl) () (eD (eD (eD (eD (eD eR)))))
    ·
     replace h := ite_f hg2 h
     refine RJ_gn (GY_no rfl rfl rfl hg2B) rfl rfl <| RJ_gn (GY_no rfl rfl rfl hg2B) rfl rfl <| RJ_gn (GY_no rfl rfl rfl hg2B) rfl rfl <| oP (P_pickF rfl hg2B rfl) rfl <| oA rfl rfl <| nT <| CJ_ret ?_
     cases h
     exact fE (res1 Try.results14 rfl) () (eD (eD (eD (eD (eD eR)))))
end Go.Proofs
namespace Go.Proofs
open Go.VG
section
variable {ns : List Nat} {K d n : Nat} {s : ArrS} {c : Option Txt} {t : Txt}
theorem switch_out (h : Lv ns K d n s) (h1 : now s d 1 ≠ 0) (hw : (wholeR (now s d) (rgR n) (now s d 1)).2 = true) :
    (s.fuse ≠ 1 ∧ ∃ t, ring_Switch (Dk d n) s = some (0, t) ∧ Put1 ns K s d 0 (now s d 1) t) ∨ (s.fuse = 1 ∧ ∃ t, ring_Switch (Dk d n) s = some (5, t) ∧ Fell ns K s t) := by
  have h4 := h.h4
  unfold ring_Switch
  rw [open_eq h.h4 h.hb]; simp only [Option.bind_some]
  rw [if_neg (by simp)]; simp only [Option.elim]
  have hr : (Dk d n).rd s (1 : Int) = some (now s d 1, 0) := h.rd (k := 1) (by omega)
  rw [hr]; simp only [Option.bind_some]
  rw [if_neg (by simp), if_neg h1, area_text_eq h]; simp only [Option.bind_some]
  rw [if_neg (by simp), if_neg (by simp [hw])]
  rcases h.put (k := 0) (by omega) (v := now s d 1) (pl := ((rgR n : Nat) : Int)) with ⟨hf, u, w, W⟩ | ⟨hf, u, w, W⟩
  · have w' : ring_area_put (Dk d n) ((rgR n : Nat) : Int) (0 : Int) (now s d 1) s = some (0, u) := w
    rw [w']; exact .inl ⟨hf, u, rfl, W⟩
  · have w' : ring_area_put (Dk d n) ((rgR n : Nat) : Int) (0 : Int) (now s d 1) s = some (5, u) := w
    rw [w']; exact .inr ⟨hf, u, rfl, W⟩
theorem read_hold (h : Lv ns K d n s) (hh : Hold (now s d) (rgR n) 0 c) : ring_Read (Dk d n) s = some (match c with | none => (⟨false, 0, ByteArray.empty⟩, 12) | some t => (⟨true, (t.q : Int), t.s⟩, 0)) := by
  rw [read_eq h]
  unfold readR
  cases c with
  | none => rw [if_pos (show now s d 0 = 0 from hh)]
  | some t => rw [if_neg (fun x => nomatch hh.ne.1 x), hh.whole, if_pos rfl, hh.dS.2.2]
theorem hold_old (hh : Hold (now s d) (rgR n) 0 c) : oldS (now s d 0) = oSt c ∧ oldN (now s d 0) = oLen c ∧ (now s d 0 ≠ 0 → (wholeR (now s d) (rgR n) (now s d 0)).2 = true) := by
  unfold oldS oldN
  cases c with
  | none => rw [if_pos (show now s d 0 = 0 from hh), if_pos (show now s d 0 = 0 from hh)]; exact ⟨rfl, rfl, fun x => absurd hh x⟩
  | some t =>
    have h0 : now s d 0 ≠ 0 := fun x => nomatch hh.ne.1 x
    rw [if_neg h0, if_neg h0, hh.whole]
    exact ⟨hh.dS.1, hh.dS.2.1, fun _ => rfl⟩
theorem Prepd.lv {u : ArrS} {st q : Nat} {x : ByteArray} (h : Lv ns K d n s) (p : Prepd ns K s d n st q x u) (hK : K + (encT x).length + 1 ≤ 900000) : Lv ns (K + (encT x).length + 1) d n u :=
  ⟨p.ok, p.dn, h.hd, h.hn, h.h4, h.hb, by rw [p.miss]; exact h.ms, fun b hb => by rw [p.cand d b h.hd (by rw [h.hn]; exact hb), if_pos rfl], hK⟩
theorem Prepd.nowD {u : ArrS} {st q : Nat} {x : ByteArray} (p : Prepd ns K s d n st q x u) : Go.Proofs.now u d = upd (putN (Go.Proofs.now s d) (rgR n) st (encT x) (encT x).length) 1 (descT q st x) := by
  funext b; rw [p.now, if_pos rfl]
theorem prep_hold (h : Lv ns K d n s) (hK : K ≤ 800000) (hh : Hold (now s d) (rgR n) 0 c) {q : Nat} {x : ByteArray} (hq : 1 ≤ q ∧ q ≤ 1048575) (hx : x.size ≤ 8192) :
    (rgR n < (encT x).length + oLen c ∧ ring_Prepare (Dk d n) (q : Int) x s = some (14, s)) ∨
    ((encT x).length + oLen c ≤ rgR n ∧ ((∃ t, ring_Prepare (Dk d n) (q : Int) x s = some (0, t) ∧ Prepd ns K s d n (nextSt (rgR n) c) q x t ∧ Lv ns (K + (encT x).length + 1) d n t ∧ Hold (now t d) (rgR n) 0 c ∧ Hold (now t d) (rgR n) 1 (some ⟨q, nextSt (rgR n) c, x⟩)) ∨
      (s.fuse ≠ 0 ∧ s.fuse ≤ (encT x).length + 1 ∧ ∃ t, ring_Prepare (Dk d n) (q : Int) x s = some (5, t) ∧ FellR ns K s d (rgR n) (nextSt (rgR n) c) (encT x).length t))) := by
  obtain ⟨r1, r2, r3⟩ := rg_le h.h4 h.hb
  have hb := h.hb
  obtain ⟨e1, e2, e3⟩ := hold_old hh
  have := prep_out h hK hq hx e3
  rw [e1, e2] at this
  have hE := encT_lt hx
  rcases this with h1 | ⟨h1, ⟨t, h2, h3⟩ | h2⟩
  · exact .inl h1
  · refine .inr ⟨h1, .inl ⟨t, h2, h3, h3.lv h (by omega), ?_⟩⟩
    rw [h3.nowD]
    exact hh.prep ⟨by omega, by unfold rgR; omega⟩ ⟨hq.1, by omega⟩ hx h1
  · exact .inr ⟨h1, .inr h2⟩
theorem switch_hold (h : Lv ns K d n s) (hK : K ≤ 800000) (hh : Hold (now s d) (rgR n) 1 (some t)) :
    (s.fuse ≠ 1 ∧ ∃ u, ring_Switch (Dk d n) s = some (0, u) ∧ Put1 ns K s d 0 (now s d 1) u ∧ Lv ns (K + 1) d n u ∧ Hold (now u d) (rgR n) 0 (some t)) ∨ (s.fuse = 1 ∧ ∃ u, ring_Switch (Dk d n) s = some (5, u) ∧ Fell ns K s u) := by
  rcases switch_out h (fun x => nomatch hh.ne.1 x) (by rw [hh.whole]) with ⟨hf, u, h1, h2⟩ | h1
  · refine .inl ⟨hf, u, h1, h2, h2.lv h (by omega), ?_⟩
    rw [h2.nowD]
    exact hh.switch
  · exact .inr h1
end
theorem area_eq {w : List UInt64} (h : 1 ≤ w.length ∧ w.length ≤ 65536) : volumegrouplaw12_area w = some (some (mkS [w]), some (Dk 0 w.length)) := by
  unfold volumegrouplaw12_area
  rw [loaded_eq (by simp) (by intro x hx; rw [List.mem_singleton.1 hx]; exact h)]
  simp only [Option.bind_some, Option.elim]
  have hS : InSz [w.length] (mkS [w]) := by have := inSz_mkS (ims := [w]); simpa [lensN] using this
  rw [spans_one hS h]; simp only [Option.bind_some]
  rw [if_neg (by simp)]; rfl
theorem lv_mkS {w : List UInt64} (h4 : 4 ≤ w.length) (hb : w.length ≤ 1000) : Lv [w.length] 0 0 w.length (mkS [w]) := by
  have hS : InSz [w.length] (mkS [w]) := by have := inSz_mkS (ims := [w]); simpa [lensN] using this
  exact ⟨⟨hS, Nat.le_refl _, coh_mkS, rfl⟩, rfl, by simp, rfl, h4, hb, miss_mkS, fun b _ => cand_mkS, by omega⟩
theorem now_mkS {w : List UInt64} : now (mkS [w]) 0 = listA w := funext fun _ => now_mkS1
theorem hold_zeros {m r d : Nat} : Hold (listA (List.replicate m 0)) r d none := by
  show (List.replicate m (0 : UInt64)).getD d 0 = 0
  rw [List.getD_eq_getElem?_getD, List.getElem?_replicate]
  split <;> rfl
theorem awake12 : volumegrouplaw12_awake = some true := by
  unfold volumegrouplaw12_awake
  rw [area_eq (by simp)]; simp only [Option.bind_some, Option.elim, List.length_replicate]
  have hL := lv_mkS (w := List.replicate 12 0) (by simp) (by simp)
  rw [List.length_replicate] at hL
  have hH : Hold (now (mkS [List.replicate 12 0]) 0) (rgR 12) 0 none := by rw [now_mkS]; exact hold_zeros
  have hx : (ByteArray.mk #[115, 111, 109, 101, 32, 116, 101, 120, 116]).size ≤ 8192 := by decide
  have hl : (encT (ByteArray.mk #[115, 111, 109, 101, 32, 116, 101, 120, 116])).length = 3 := by rw [encT_len]; rfl
  generalize hX : ByteArray.mk #[115, 111, 109, 101, 32, 116, 101, 120, 116] = x at hx hl ⊢
  rcases prep_hold hL (by omega) hH (q := 5) (by omega) hx with ⟨h1, _⟩ | ⟨_, ⟨t, h2, h3, h4, h5, h6⟩ | ⟨h2, _⟩⟩
  · rw [hl] at h1; exact absurd h1 (by decide)
  · have h2' : ring_Prepare (Dk 0 12) (5 : Int) x (mkS [List.replicate 12 0]) = some (0, t) := h2
    rw [h2']; simp only [Option.bind_some]
    rw [if_neg (by simp), read_hold h4 h5]; simp only [Option.bind_some]
    have hf : t.fuse = 0 := by rw [h3.fuse]; show 0 - _ = 0; omega
    rcases switch_hold h4 (by omega) h6 with ⟨_, u, k1, k2, k3, k4⟩ | ⟨k1, _⟩
    · rw [k1]; simp only [Option.bind_some]
      rw [read_hold k3 k4]; simp only [Option.bind_some]
      rw [if_pos (by simp)]
      exact congrArg some (decide_eq_true rfl)
    · rw [hf] at k1; cases k1
  · exact absurd rfl h2
end Go.Proofs
namespace Go.Proofs
open Go.VG
theorem keep_l1 {w : UInt64} : ∀ (N i : Nat) (acc : List Bool), 192 - i < N → i ≤ 192 → acc.length = i → ∃ ks, volumegroupmake_Keep_l1 w N acc i = some ks
  | 0, _, _, h, _, _ => absurd h (by omega)
  | N + 1, i, acc, h, hi, ha => by
    show ∃ ks, volumegroupmake_Keep_l1_b _ _ _ _ = _
    unfold volumegroupmake_Keep_l1_b
    by_cases hlt : i < 192
    · rw [if_pos (by omega), grd_t (inLen_of (by omega))]
      exact keep_l1 N (i + 1) _ (by omega) (by omega) (by simp [ha])
    · rw [if_neg (by omega)]; exact ⟨_, rfl⟩
theorem keep_ok (w : UInt64) : ∃ ks, volumegroupmake_Keep w = some ks := by
  unfold volumegroupmake_Keep
  have hF := fuel_big
  generalize FUEL = N at hF ⊢
  obtain ⟨ks, h⟩ := keep_l1 (w := w) N 0 [] (by omega) (by omega) rfl
  exact ⟨ks, by rw [h]; rfl⟩
end Go.Proofs
set_option linter.unusedSimpArgs false
set_option linter.unusedVariables false
set_option maxRecDepth 20000
set_option maxHeartbeats 4000000
namespace Go.Proofs
open Go.VG
theorem bld_117_0 (v0 : (Option Addr)) (v1 : Nat) (v2 : Nat) : ∀ w, (Instr.build 117 (#[(0, .slice v0 v1 v2)] : Array (Nat × Value))).run Try.prog w = .ok (.agg #[.slice v0 v1 v2, .int .i64 (0 : Int)]) w := fun w => by kernel_rfl
theorem bs_43_5_0_1_2_3_4 (v0 : ByteArray) (v1 : ByteArray) (v2 : ByteArray) (v3 : ByteArray) (v4 : ByteArray) : BuildsSlice Try.prog 43 5 [(0, .string v0), (1, .string v1), (2, .string v2), (3, .string v3), (4, .string v4)] 9 [.string v0, .string v1, .string v2, .string v3, .string v4] := fun w => by kernel_rfl
def volumegroupmake_New (l : List Int) : Option ((List Int) × Nat) :=
  if ((1000 : Int) < ((l.length : Nat) : Int)) then
    some ((((l.take 1000).drop 0), 0))
  else
    some (l, 0)
theorem L_volumegroupmake_New {W : World} {Al : HP} {vl : Value} {l : List Int} {r : (List Int) × Nat} (rl : Reads Al tyI vl l) (h : volumegroupmake_New l = some r) :
    CSpec Try.prog W 19 [vl] [Al] (fun x : Nat × Value => ptr x.1 0) (fun _ => True) (fun x F => Al :: blk x.1 117 [x.2, .int .i64 (((r.2 : Nat) : Int))] :: pur (Reads Al tyI x.2 r.1) :: F) := by
 refine CSpec.of_body Try.func19 rfl Try.ntmps19 rfl fun F => ?_
 show CJ _ _ _ _ _ _ (_ :: F)
 unfold volumegroupmake_New at h
 refine CJ_pure (len_of rl del0) fun hlen1 => sR <| oA rfl rfl <| nT <| CJ_seq <| sR <| oM rfl rfl <| oV (V_len rfl foc0 rl Try.runUnderlying38) rfl <| oP (P_gtr (a := ((l.length : Nat) : Int)) (b := (1000 : Int)) rfl rfl) rfl <| nT <| CJ_condP rfl bT_dec (fun hg1 => ?_) (fun hg1 => ?_)
 ·
  replace h := ite_t hg1 h
  refine CJ_region <| oM rfl rfl <| oV (V_slice (l := 0) (h := 1000) rfl foc0 rl rfl ⟨_, rfl⟩ (by omega) (by omega) Try.underlying38 Try.sizeOf3) rfl <| oA rfl rfl <| nT <| sR <| oM rfl rfl <| RJ_pure (reads_sl3 rl del0) fun hsv3 => ?_
  obtain ⟨sv2, hsv3⟩ := hsv3
  subst hsv3
  refine oP (P_build rfl (bld_117_0 _ _ _)) rfl <| oO <| O_box rfl rfl rfl fun b4 => oA rfl rfl <| nT <| CJ_ret ?_
  cases h
  exact fE (res1 Try.results19 rfl) ⟨b4, sliceV tyI.sz (Sl3.v sv2) 0 1000⟩ (t1_ (t0_ (Ent.trans (fun h hh => stars_pur.2 ⟨(Reads.sliceV (l := 0) (h := 1000) rl (by omega) (by omega)), hh⟩) <| t0_ eR)))
 ·
  replace h := ite_f hg1 h
  refine kT <| sR <| oM rfl rfl <| RJ_pure (reads_sl3 rl del0) fun hsv6 => ?_
  obtain ⟨sv5, hsv6⟩ := hsv6
  subst hsv6
  refine oP (P_build rfl (bld_117_0 _ _ _)) rfl <| oO <| O_box rfl rfl rfl fun b7 => oA rfl rfl <| nT <| CJ_ret ?_
  cases h
  exact fE (res1 Try.results19 rfl) ⟨b7, (Sl3.v sv5)⟩ (t1_ (t0_ (Ent.trans (fun h hh => stars_pur.2 ⟨rl, hh⟩) <| t0_ eR)))
def volumegroupmake_Src_Raw (s_0_L : List Int) (s_0_At : Int) : Option (Int × Int) :=
  if (((s_0_L.length : Nat) : Int) ≤ s_0_At) then
    some (((0 : Int), s_0_At))
  else
    grd (inI64 ((s_0_At + (1 : Int)))) <|
    grd (inI64 (((s_0_At + (1 : Int)) - (1 : Int)))) <|
    grd (decide (0 ≤ ((s_0_At + (1 : Int)) - (1 : Int)) ∧ ((s_0_At + (1 : Int)) - (1 : Int)) < (s_0_L.length : Int))) <|
    some (((s_0_L.getD ((((s_0_At + (1 : Int)) - (1 : Int))).toNat) 0), (s_0_At + (1 : Int))))
theorem L_volumegroupmake_Src_Raw {W : World} {bs_0 : Nat} {As_0_L : HP} {vs_0_L : Value} {s_0_L : List Int} {s_0_At : Int} {r : Int × Int} (rs_0_L : Reads As_0_L tyI vs_0_L s_0_L) (h : volumegroupmake_Src_Raw s_0_L s_0_At = some r) :
    CSpec Try.prog W 63 [ptr bs_0 0] [blk bs_0 117 [vs_0_L, .int .i64 s_0_At], As_0_L] (fun x : Unit => .int .i64 r.1) (fun _ => True) (fun x F => blk bs_0 117 [vs_0_L, .int .i64 r.2] :: As_0_L :: F) := by
 refine CSpec.of_body Try.func63 rfl Try.ntmps63 rfl fun F => ?_
 show CJ _ _ _ _ _ _ (_ :: _ :: F)
 unfold volumegroupmake_Src_Raw at h
 refine CJ_pure (len_of rs_0_L del1) fun hlen1 => sR <| oA rfl rfl <| nT <| CJ_seq <| CJ_seq <| AJ_startH 0 (by kernel_rfl) rfl <| aN 0 1 rfl rfl (P_move rfl) rfl <| aN 1 3 rfl rfl (P_nilCheck rfl) rfl <| aN 2 7 rfl rfl (P_fieldAddr rfl ⟨_, _, _, Try.runUnderlying117, rfl, rfl, Try.sizeOf3, rfl⟩) rfl <| aV 3 15 rfl rfl (GY_none rfl) eR (V_load rfl foc0 rfl Try.isAgg3) rfl <| aN 4 31 rfl rfl (P_move rfl) rfl <| aN 5 63 rfl rfl (P_nilCheck rfl) rfl <| aN 6 127 rfl rfl (P_fieldAddr rfl ⟨_, _, _, Try.runUnderlying117, rfl, rfl, Try.sizeOf38, rfl⟩) rfl <| aV 7 255 rfl rfl (GY_none rfl) eR (V_load rfl foc0 rfl Try.isAgg38) rfl <| aV 8 511 rfl rfl (GY_none rfl) eR (V_len rfl foc1 rs_0_L Try.runUnderlying38) rfl <| aN 9 1023 rfl rfl (P_geq (a := s_0_At) (b := ((s_0_L.length : Nat) : Int)) rfl rfl) rfl <| aD <| CJ_condP rfl bT_dec (fun hg1 => ?_) (fun hg1 => ?_)
 ·
  replace h := ite_t hg1 h
  refine sR <| oA rfl rfl <| nT <| CJ_ret <| QJ_then_ret ?_
  cases h
  exact fE (res1 Try.results63 rfl) () eR
 ·
  replace h := ite_f hg1 h
  refine kT <| sR <| oM rfl rfl <| oP (P_nilCheck rfl) rfl <| oP (P_fieldAddr rfl ⟨_, _, _, Try.runUnderlying117, rfl, rfl, Try.sizeOf3, rfl⟩) rfl <| oV (V_load rfl foc0 rfl Try.isAgg3) rfl ?_
  obtain ⟨hg2, h⟩ := grd_Ie h
  refine oP (P_add (a := s_0_At) (b := (1 : Int)) rfl rfl hg2) rfl <| oP (P_nilCheck rfl) rfl <| oP (P_fieldAddr rfl ⟨_, _, _, Try.runUnderlying117, rfl, rfl, Try.sizeOf3, rfl⟩) rfl <| oO <| O_store rfl rfl foc0 rfl rfl Try.sizeOf3 <| nT <| CJ_seq <| AJ_startH 0 (by kernel_rfl) rfl <| aN 0 1 rfl rfl (P_move rfl) rfl <| aN 1 3 rfl rfl (P_nilCheck rfl) rfl <| aN 2 7 rfl rfl (P_fieldAddr rfl ⟨_, _, _, Try.runUnderlying117, rfl, rfl, Try.sizeOf38, rfl⟩) rfl <| aV 3 15 rfl rfl (GY_none rfl) eR (V_load rfl foc0 rfl Try.isAgg38) rfl <| aN 4 31 rfl rfl (P_move rfl) rfl <| aN 5 63 rfl rfl (P_nilCheck rfl) rfl <| aN 6 127 rfl rfl (P_fieldAddr rfl ⟨_, _, _, Try.runUnderlying117, rfl, rfl, Try.sizeOf3, rfl⟩) rfl <| aV 7 255 rfl rfl (GY_none rfl) eR (V_load rfl foc0 rfl Try.isAgg3) rfl ?_
  obtain ⟨hg3, h⟩ := grd_Ie h
  refine aN 8 511 rfl rfl (P_sub (a := (s_0_At + (1 : Int))) (b := (1 : Int)) rfl rfl hg3) rfl ?_
  obtain ⟨hg4, h⟩ := grd_de h
  refine aV 9 1023 rfl rfl (GY_none rfl) eR (V_index (i := (((s_0_At + (1 : Int)) - (1 : Int))).toNat) rfl rfl (Int.toNat_of_nonneg (hg4.1)).symm (by omega) foc1 rs_0_L Try.runUnderlying38 Try.sizeOf3) rfl <| aV 10 2047 rfl rfl (GY_none rfl) eR (V_loadE rfl rfl (by omega) foc1 rs_0_L rfl rfl Try.isAgg3) rfl <| aN 11 4095 rfl rfl (P_assign rfl) rfl <| aD <| CJ_ret ?_
  cases h
  exact fE (res1 Try.results63 rfl) () eR
def volumegroupmake_Src_N (s_0_L : List Int) (s_0_At : Int) (n_1 : Int) : Option (Int × Int) :=
  if (n_1 < (1 : Int)) then
    some (((0 : Int), s_0_At))
  else
    Option.bind (volumegroupmake_Src_Raw s_0_L s_0_At) fun r2 =>
    if ((r2.1.tmod n_1) < (0 : Int)) then
      grd (inI64 (((r2.1.tmod n_1) + n_1))) <|
      some ((((r2.1.tmod n_1) + n_1), r2.2))
    else
      some (((r2.1.tmod n_1), r2.2))
theorem L_volumegroupmake_Src_N {W : World} {bs_0 : Nat} {As_0_L : HP} {vs_0_L : Value} {s_0_L : List Int} {s_0_At : Int} {n_1 : Int} {r : Int × Int} (rs_0_L : Reads As_0_L tyI vs_0_L s_0_L) (h : volumegroupmake_Src_N s_0_L s_0_At n_1 = some r) :
    CSpec Try.prog W 28 [ptr bs_0 0, .int .i64 n_1] [blk bs_0 117 [vs_0_L, .int .i64 s_0_At], As_0_L] (fun x : Unit => .int .i64 r.1) (fun _ => True) (fun x F => blk bs_0 117 [vs_0_L, .int .i64 r.2] :: As_0_L :: F) := by
 refine CSpec.of_body Try.func28 rfl Try.ntmps28 rfl fun F => ?_
 show CJ _ _ _ _ _ _ (_ :: _ :: F)
 unfold volumegroupmake_Src_N at h
 refine CJ_pure (len_of rs_0_L del1) fun hlen1 => sR <| oA rfl rfl <| nT <| CJ_seq <| sR <| oM rfl rfl <| oP (P_lss (a := n_1) (b := (1 : Int)) rfl rfl) rfl <| nT <| CJ_condP rfl bT_dec (fun hg1 => ?_) (fun hg1 => ?_)
 ·
  replace h := ite_t hg1 h
  refine sR <| oA rfl rfl <| nT <| CJ_ret <| QJ_then_ret ?_
  cases h
  exact fE (res1 Try.results28 rfl) () eR
 ·
  replace h := ite_f hg1 h
  refine kT <| sR <| oM rfl rfl ?_
  obtain ⟨r2, hr3, h⟩ := bind_e h
  refine oO <| O_call (L_volumegroupmake_Src_Raw rs_0_L hr3) rfl Try.call63 (Dels.cons del0 (Dels.cons del0 Dels.nil)) rfl fun _ _ => oM rfl rfl <| oP (P_remT (a := r2.1) (b := n_1) rfl rfl (by omega)) rfl <| oA rfl rfl <| nT <| CJ_seq <| sR <| oM rfl rfl <| oP (P_lss (a := (r2.1.tmod n_1)) (b := (0 : Int)) rfl rfl) rfl <| nT <| CJ_condP rfl bT_dec (fun hg2 => ?_) (fun hg2 => ?_)
  ·
   replace h := ite_t hg2 h
   refine CJ_region <| oM rfl rfl <| oM rfl rfl ?_
   obtain ⟨hg3, h⟩ := grd_Ie h
   refine oP (P_add (a := (r2.1.tmod n_1)) (b := n_1) rfl rfl hg3) rfl <| oA rfl rfl <| nT <| sR <| oM rfl rfl <| oA rfl rfl <| nT <| CJ_ret ?_
   cases h
   exact fE (res1 Try.results28 rfl) () eR
  ·
   replace h := ite_f hg2 h
   refine kT <| sR <| oM rfl rfl <| oA rfl rfl <| nT <| CJ_ret ?_
   cases h
   exact fE (res1 Try.results28 rfl) () eR
def volumegroupmake_Src_Range (s_0_L : List Int) (s_0_At : Int) (low : Int) (high : Int) : Option (Int × Int) :=
  grd (inI64 (high - low)) <|
  grd (inI64 (((high - low) + (1 : Int)))) <|
  Option.bind (volumegroupmake_Src_N s_0_L s_0_At (((high - low) + (1 : Int)))) fun r2 =>
  grd (inI64 (low + r2.1)) <|
  some (((low + r2.1), r2.2))
theorem L_volumegroupmake_Src_Range {W : World} {bs_0 : Nat} {As_0_L : HP} {vs_0_L : Value} {s_0_L : List Int} {s_0_At : Int} {low : Int} {high : Int} {r : Int × Int} (rs_0_L : Reads As_0_L tyI vs_0_L s_0_L) (h : volumegroupmake_Src_Range s_0_L s_0_At low high = some r) :
    CSpec Try.prog W 20 [ptr bs_0 0, .int .i64 low, .int .i64 high] [blk bs_0 117 [vs_0_L, .int .i64 s_0_At], As_0_L] (fun x : Unit => .int .i64 r.1) (fun _ => True) (fun x F => blk bs_0 117 [vs_0_L, .int .i64 r.2] :: As_0_L :: F) := by
 refine CSpec.of_body Try.func20 rfl Try.ntmps20 rfl fun F => ?_
 show CJ _ _ _ _ _ _ (_ :: _ :: F)
 unfold volumegroupmake_Src_Range at h
 refine CJ_pure (len_of rs_0_L del1) fun hlen1 => sR <| oA rfl rfl <| nT <| sR <| oM rfl rfl <| oM rfl rfl <| oM rfl rfl <| oM rfl rfl ?_
 obtain ⟨hg1, h⟩ := grd_Ie h
 refine oP (P_sub (a := high) (b := low) rfl rfl hg1) rfl ?_
 obtain ⟨hg2, h⟩ := grd_Ie h
 refine oP (P_add (a := (high - low)) (b := (1 : Int)) rfl rfl hg2) rfl ?_
 obtain ⟨r2, hr3, h⟩ := bind_e h
 refine oO <| O_call (L_volumegroupmake_Src_N rs_0_L hr3) rfl Try.call28 (Dels.cons del0 (Dels.cons del0 Dels.nil)) rfl fun _ _ => ?_
 obtain ⟨hg3, h⟩ := grd_Ie h
 refine oP (P_add (a := low) (b := r2.1) rfl rfl hg3) rfl <| oA rfl rfl <| nT <| CJ_ret ?_
 cases h
 exact fE (res1 Try.results20 rfl) () eR
def volumegroupmake_Src_Word (s_0_L : List Int) (s_0_At : Int) (l : List ByteArray) : Option (ByteArray × Int) :=
  Option.bind (volumegroupmake_Src_N s_0_L s_0_At (((l.length : Nat) : Int))) fun r3 =>
  grd (decide (0 ≤ r3.1 ∧ r3.1 < (l.length : Int))) <|
  some (((l.getD ((r3.1).toNat) ByteArray.empty), r3.2))
theorem L_volumegroupmake_Src_Word {W : World} {bs_0 : Nat} {As_0_L : HP} {vs_0_L : Value} {Al : HP} {vl : Value} {s_0_L : List Int} {s_0_At : Int} {l : List ByteArray} {r : ByteArray × Int} (rs_0_L : Reads As_0_L tyI vs_0_L s_0_L) (rl : Reads Al tyS vl l) (h : volumegroupmake_Src_Word s_0_L s_0_At l = some r) :
    CSpec Try.prog W 22 [ptr bs_0 0, vl] [blk bs_0 117 [vs_0_L, .int .i64 s_0_At], As_0_L, Al] (fun x : Unit => .string r.1) (fun _ => True) (fun x F => blk bs_0 117 [vs_0_L, .int .i64 r.2] :: As_0_L :: Al :: F) := by
 refine CSpec.of_body Try.func22 rfl Try.ntmps22 rfl fun F => ?_
 show CJ _ _ _ _ _ _ (_ :: _ :: _ :: F)
 unfold volumegroupmake_Src_Word at h
 refine CJ_pure (len_of rs_0_L del1) fun hlen1 => CJ_pure (len_of rl del2) fun hlen2 => sR <| oA rfl rfl <| nT <| sR <| oM rfl rfl <| oM rfl rfl <| oM rfl rfl <| oV (V_len rfl foc2 rl Try.runUnderlying43) rfl ?_
 obtain ⟨r3, hr4, h⟩ := bind_e h
 refine oO <| O_call (L_volumegroupmake_Src_N rs_0_L hr4) rfl Try.call28 (Dels.cons del0 (Dels.cons del0 Dels.nil)) rfl fun _ _ => ?_
 obtain ⟨hg1, h⟩ := grd_de h
 refine oV (V_index (i := (r3.1).toNat) rfl rfl (Int.toNat_of_nonneg (hg1.1)).symm (by omega) foc2 rl Try.runUnderlying43 Try.sizeOf9) rfl <| oV (V_loadE rfl rfl (by omega) foc2 rl rfl rfl Try.isAgg9) rfl <| oA rfl rfl <| nT <| CJ_ret ?_
 cases h
 exact fE (res1 Try.results22 rfl) () eR
def volumegrouplaw12_RingCrash_l1_b (keep : UInt64) (r2 : (List Int) × Nat) (o16 : Dvc) (rec : Bool → Nat → ByteArray → Bool → Nat → ByteArray → Int → ArrS → Nat → Option ((Bool × Nat × ByteArray × Bool × Nat × ByteArray × Int × ArrS) ⊕ Bool)) (x34 : Bool) (x35 : Nat) (x36 : ByteArray) (x37 : Bool) (x38 : Nat) (x39 : ByteArray) (x40 : Int) (x41 : ArrS) (x42 : Nat) : Option ((Bool × Nat × ByteArray × Bool × Nat × ByteArray × Int × ArrS) ⊕ Bool) :=
  if (((x42 : Nat) : Int) < (9 : Int)) then
    Option.bind (volumegroupmake_Src_Word r2.1 x40 ([(ByteArray.mk #[97]), (ByteArray.mk #[101, 105, 103, 104, 116, 32, 98, 121]), (ByteArray.mk #[115, 111, 109, 101, 32, 108, 111, 110, 103, 101, 114, 32, 116, 101, 120, 116]), (ByteArray.mk #[118, 103, 32, 123, 32, 125]), (ByteArray.mk #[])])) fun r43 =>
    Option.bind (ring_Prepare o16 (((x42 : Nat) : Int)) r43.1 x41) fun r45 =>
    if (r45.1 = (14 : Int)) then
      Option.bind (volumegrouplaw12_awake) fun r47 =>
      some (.inr r47)
    else
      Option.bind ((
        if (r45.1 = (0 : Int)) then
          Option.bind (ring_Switch o16 r45.2) fun r62 =>
          if (r62.1 = (0 : Int)) then
            some (r62.1, true, true, x42, r43.1, true, x42, r43.1, r62.2)
          else
            some (r62.1, true, x34, x35, x36, true, x42, r43.1, r62.2)
        else
          some (r45.1, false, x34, x35, x36, x37, x38, x39, r45.2) : Option (Int × Bool × Bool × Nat × ByteArray × Bool × Nat × ByteArray × ArrS))) fun a61 =>
      if (a61.1 = (0 : Int)) then
        rec a61.2.2.1 a61.2.2.2.1 a61.2.2.2.2.1 a61.2.2.2.2.2.1 a61.2.2.2.2.2.2.1 a61.2.2.2.2.2.2.2.1 r43.2 a61.2.2.2.2.2.2.2.2 (x42 + 1)
      else
        Option.bind (volumegroupmake_Keep keep) fun r65 =>
        grd (inLen a61.2.2.2.2.2.2.2.2.writes) <|
        Option.bind (ring_Read o16 (rsS a61.2.2.2.2.2.2.2.2 r65)) fun r69 =>
        if (((a61.1 = (5 : Int)) ∧ ((r69.2 = (0 : Int)) ∨ ((r69.2 = (12 : Int)) ∧ (¬ a61.2.2.1 = true)))) ∧ ((r69.1 = (⟨a61.2.2.1, ((a61.2.2.2.1 : Nat) : Int), a61.2.2.2.2.1⟩ : api_Copy)) ∨ (a61.2.1 = true ∧ (r69.1 = (⟨a61.2.2.2.2.2.1, ((a61.2.2.2.2.2.2.1 : Nat) : Int), a61.2.2.2.2.2.2.2.1⟩ : api_Copy))))) then
          Option.bind (volumegrouplaw12_awake) fun r120 =>
          some (.inr r120)
        else
          some (.inr false)
  else
    some (.inl (x37, x38, x39, x34, x35, x36, x40, x41))
def volumegrouplaw12_RingCrash_l1 (keep : UInt64) (r2 : (List Int) × Nat) (o16 : Dvc) : Nat → Bool → Nat → ByteArray → Bool → Nat → ByteArray → Int → ArrS → Nat → Option ((Bool × Nat × ByteArray × Bool × Nat × ByteArray × Int × ArrS) ⊕ Bool)
  | 0, _, _, _, _, _, _, _, _, _ => none
  | n + 1, x34, x35, x36, x37, x38, x39, x40, x41, x42 => volumegrouplaw12_RingCrash_l1_b keep r2 o16 (volumegrouplaw12_RingCrash_l1 keep r2 o16 n) x34 x35 x36 x37 x38 x39 x40 x41 x42
def volumegrouplaw12_RingCrash (l : List Int) (fuse : UInt8) (keep : UInt64) : Option (Bool) :=
  Option.bind (volumegroupmake_New l) fun r2 =>
  Option.bind (volumegroupmake_Src_Range r2.1 (((r2.2 : Nat) : Int)) (8 : Int) (24 : Int)) fun r7 =>
  grd (decide (0 ≤ r7.1 ∧ r7.1 ≤ 1000000000)) <|
  Option.bind (volumegrouplaw12_area ((List.replicate ((r7.1).toNat) (0 : UInt64)))) fun r10 =>
  Option.elim r10.2 (
    some false) fun o16 =>
  grd (inN64 ((1 + ((fuse % (60 : UInt8))).toNat))) <|
  Option.elim r10.1 (
    none) fun o21 =>
  grd (inI64 ((((1 + ((fuse % (60 : UInt8))).toNat) : Nat) : Int))) <|
  seqO (volumegrouplaw12_RingCrash_l1 keep r2 o16 FUEL false 0 ByteArray.empty false 0 ByteArray.empty r7.2 ({ o21 with fuse := ((((1 + ((fuse % (60 : UInt8))).toNat) : Nat) : Int)).toNat }) 1) fun a33 =>
  Option.bind (ring_Read o16 a33.2.2.2.2.2.2.2) fun r123 =>
  if ((r123.2 = (0 : Int)) ∧ (r123.1 = (⟨a33.2.2.2.1, ((a33.2.2.2.2.1 : Nat) : Int), a33.2.2.2.2.2.1⟩ : api_Copy))) then
    Option.bind (volumegrouplaw12_awake) fun r132 =>
    some r132
  else
    some false
theorem L_volumegrouplaw12_RingCrash {W : World} {Al : HP} {vl : Value} {l : List Int} {fuse : UInt8} {keep : UInt64} {r : Bool} (rl : Reads Al tyI vl l) (h : volumegrouplaw12_RingCrash l fuse keep = some r) :
    CSpec Try.prog W 4 [vl, .int .u8 (fuse.toNat : Int), .int .u64 (keep.toNat : Int)] [Al] (fun x : Unit => .bool r) (fun _ => True) (fun x F => Al :: F) := by
 refine CSpec.of_body Try.func4 rfl Try.ntmps4 rfl fun F => ?_
 show CJ _ _ _ _ _ _ (_ :: F)
 unfold volumegrouplaw12_RingCrash at h
 refine CJ_pure (len_of rl del0) fun hlen1 => sR <| oA rfl rfl <| nT <| sR <| oM rfl rfl ?_
 obtain ⟨r2, hr3, h⟩ := bind_e h
 refine oO <| O_call (L_volumegroupmake_New rl hr3) rfl Try.call19 (Dels.cons del0 Dels.nil) rfl fun X4 _ => RJ_ent (t2_ eR) <| RJ_pur fun hpur_q6 => oA rfl rfl <| nT <| sR <| oM rfl rfl ?_
 obtain ⟨r7, hr8, h⟩ := bind_e h
 refine oO <| O_call (L_volumegroupmake_Src_Range hpur_q6 hr8) rfl Try.call20 (Dels.cons del1 (Dels.cons del0 Dels.nil)) rfl fun _ _ => ?_
 obtain ⟨hg1, h⟩ := grd_de h
 refine oO <| O_make (t := tyU) (m := (r7.1).toNat) (x0 := 0) (z := _) (bytes := _) rfl rfl (Int.toNat_of_nonneg (hg1.1)).symm (Int.toNat_of_nonneg (hg1.1)).symm Try.underlying29 ⟨Try.t39, by kernel_rfl, rfl, rfl, rfl⟩ rfl (by omega) (by decide) rfl fun b9 => ?_
 obtain ⟨r10, hr11, h⟩ := bind_e h
 refine oO <| O_call (L_volumegrouplaw12_area (Reads.sl _ _ _) hr11) rfl Try.call15 (Dels.cons del0 Dels.nil) rfl fun X12 _ => oM rfl rfl <| oP (P_extract rfl rfl) rfl <| oP (P_extract rfl rfl) rfl <| oA rfl rfl <| oA rfl rfl <| nT <| CJ_seq <| sR <| oM rfl rfl ?_
 rcases opt_e h with ⟨ht15, h⟩ | ⟨o16, ht15, h⟩
 ·
  rw [ht15]
  refine RJ_ent (t0_ (t0_ (t1_ (t1_ (eD eR))))) <| oP (P_eqlIN rfl Try.underlying26) rfl <| nT <| CJ_condT rfl rfl <| sR <| oA rfl rfl <| nT <| CJ_ret <| QJ_then_ret ?_
  cases h
  exact fE (res1 Try.results4 rfl) () (t3_ (eD (eD (eD eR))))
 ·
  rw [ht15]
  refine RJ_ent (Ent.takeC (A' := DevP X12.1 o16 X12.2) del2 rfl eR) <| oP (P_eqlIfN rfl rfl Try.underlying26) rfl <| nT <| CJ_condF rfl rfl <| kT <| sR <| oO <| O_buildSlice rfl (bs_43_5_0_1_2_3_4 _ _ _ _ _) rfl fun b17 => RJ_ent (Ent.trans (t0_ eR) (sl_of_lit (t := tyS) (m := 5) [(ByteArray.mk #[97]), (ByteArray.mk #[101, 105, 103, 104, 116, 32, 98, 121]), (ByteArray.mk #[115, 111, 109, 101, 32, 108, 111, 110, 103, 101, 114, 32, 116, 101, 120, 116]), (ByteArray.mk #[118, 103, 32, 123, 32, 125]), (ByteArray.mk #[])] rfl rfl rfl (by decide))) <| oA rfl rfl <| nT <| sR <| oO <| O_alloc Try.zeroValue34 rfl rfl fun b18 => oO <| O_alloc Try.zeroValue34 rfl rfl fun b19 => RJ_nil <| QJ_ent (t0_ (t0_ (t0_ (t0_ (t1_ (t1_ (t1_ (eD eR)))))))) <| QJ_then <| sR <| oM rfl rfl <| oM rfl rfl <| oP (P_rem_u8 (a := fuse) (b := (60 : UInt8)) rfl rfl (by decide)) rfl <| oP (P_convSame rfl Try.runUnderlying5 Try.runUnderlying3 (wrap64_u _ (by have h9 := ((fuse % (60 : UInt8))).toNat_lt; exact (by omega : ((fuse % (60 : UInt8))).toNat < 9223372036854775808)))) rfl ?_
  obtain ⟨hg2, h⟩ := grd_Ne h
  refine oP (PJ_eq (P_add (a := (1 : Int)) (b := ((((fuse % (60 : UInt8))).toNat : Nat) : Int)) rfl rfl (nat_in hg2)) rfl) rfl ?_
  rcases opt_e h with ⟨ht20, h⟩ | ⟨o21, ht20, h⟩
  ·
   rw [ht20]
   exact RJ_ent (t0_ (t0_ (t0_ (t0_ (t1_ (t1_ (eD eR))))))) <| none_e h
  ·
   rw [ht20]
   refine RJ_ent (Ent.takeC (A' := Arr X12.1 o21) del4 rfl eR) ?_
   obtain ⟨hg3, h⟩ := grd_Ie h
   refine oO <| O_call (c_FuseD hg3.2) rfl Try.call21 (Dels.cons del0 Dels.nil) rfl fun _ _ => nT <| CJ_seq <| sR <| oA rfl rfl <| nT ?_
   obtain ⟨y24, hl22, hK23⟩ := seq_e h
   refine CJ_cutT (X := Bool × Nat × ByteArray × Bool × Nat × ByteArray × Int × ArrS) [6, 13, 14, 15, 16, 17, 18, 19, 40, 41, 42, 43, 44, 45, 46, 47, 48, 49, 50, 51, 52, 53, 54, 55, 56, 57, 58, 59, 60, 61, 62, 63, 64, 65, 66, 67, 68, 69, 70, 71, 72, 73, 74, 75, 76, 77, 78, 79, 80, 81, 82, 83, 84, 85, 86, 87, 88, 89, 90, 91, 92, 93, 94, 95, 96, 97, 98, 99, 100, 101, 102, 103, 104, 105, 106] (fun a33 => ([] : Slots)) (fun a33 R => blk b19 34 [.bool a33.1, .int .i64 (((a33.2.1 : Nat) : Int)), .string a33.2.2.1] :: blk b18 34 [.bool a33.2.2.2.1, .int .i64 (((a33.2.2.2.2.1 : Nat) : Int)), .string a33.2.2.2.2.2.1] :: blk X4.1 117 [X4.2, .int .i64 a33.2.2.2.2.2.2.1] :: Arr X12.1 a33.2.2.2.2.2.2.2 :: R) (fun a33 => y24 = .inl a33) (Dels.cons del1 (Dels.cons del1 (Dels.cons del3 (Dels.cons del0 Dels.nil)))) ?_ ?_
   ·
    refine CJ_block <| CJ_loopR (X := Nat × Bool × Nat × ByteArray × Bool × Nat × ByteArray × Int × ArrS × Nat) [6, 13, 14, 15, 16, 17, 18, 19, 40, 41, 42, 43, 44, 45, 46, 47, 48, 49, 50, 51, 52, 53, 54, 55, 56, 57, 58, 59, 60, 61, 62, 63, 64, 65, 66, 67, 68, 69, 70, 71, 72, 73, 74, 75, 76, 77, 78, 79, 80, 81, 82, 83, 84, 85, 86, 87, 88, 89, 90, 91, 92, 93, 94, 95, 96, 97, 98, 99, 100, 101, 102, 103, 104, 105, 106] (fun ⟨n, x34, x35, x36, x37, x38, x39, x40, x41, x42⟩ => ([(13, .int .i64 (((x42 : Nat) : Int)))] : Slots)) (fun ⟨n, x34, x35, x36, x37, x38, x39, x40, x41, x42⟩ R => blk b18 34 [.bool x34, .int .i64 (((x35 : Nat) : Int)), .string x36] :: blk b19 34 [.bool x37, .int .i64 (((x38 : Nat) : Int)), .string x39] :: blk X4.1 117 [X4.2, .int .i64 x40] :: Arr X12.1 x41 :: R) (fun ⟨n, x34, x35, x36, x37, x38, x39, x40, x41, x42⟩ => volumegrouplaw12_RingCrash_l1 keep r2 o16 n x34 x35 x36 x37 x38 x39 x40 x41 x42 = some y24) (fun ⟨n, x34, x35, x36, x37, x38, x39, x40, x41, x42⟩ => n) ⟨FUEL, false, 0, ByteArray.empty, false, 0, ByteArray.empty, r7.2, { o21 with fuse := ((((1 + ((fuse % (60 : UInt8))).toNat) : Nat) : Int)).toNat }, 1⟩ ?_ ?_ (t2_ (t1_ (t3_ eR))) ?_
    · exact hl22
    · exact ⟨rfl, True.intro⟩
    ·
     rintro ⟨n, x34, x35, x36, x37, x38, x39, x40, x41, x42⟩ h
     cases n with
     | zero => exact none_e h
     | succ n => ?_
     replace h : volumegrouplaw12_RingCrash_l1_b keep r2 o16 (volumegrouplaw12_RingCrash_l1 keep r2 o16 n) x34 x35 x36 x37 x38 x39 x40 x41 x42 = some y24 := h
     unfold volumegrouplaw12_RingCrash_l1_b at h
     show CJ _ _ _ _ _ (([(13, .int .i64 (((x42 : Nat) : Int)))] : Slots) ++ forget _ _) (blk b18 34 [.bool x34, .int .i64 (((x35 : Nat) : Int)), .string x36] :: blk b19 34 [.bool x37, .int .i64 (((x38 : Nat) : Int)), .string x39] :: blk X4.1 117 [X4.2, .int .i64 x40] :: Arr X12.1 x41 :: _)
     refine CJ_seq <| sR <| oM rfl rfl <| oP (P_lss (a := ((x42 : Nat) : Int)) (b := (9 : Int)) rfl rfl) rfl <| nT <| CJ_condP rfl bT_dec (fun hg4 => ?_) (fun hg4 => ?_)
     ·
      replace h := ite_t hg4 h
      refine kT <| CJ_seq <| CJ_block <| sR <| oM rfl rfl <| oM rfl rfl ?_
      obtain ⟨r43, hr44, h⟩ := bind_e h
      refine oO <| O_call (L_volumegroupmake_Src_Word hpur_q6 (Reads.sl _ _ _) hr44) rfl Try.call22 (Dels.cons del2 (Dels.cons del5 (Dels.cons del3 Dels.nil))) rfl fun _ _ => oA rfl rfl <| nT <| sR <| oM rfl rfl <| oM rfl rfl <| oM rfl rfl ?_
      obtain ⟨r45, hr46, h⟩ := bind_e h
      refine oO <| O_call (L_ring_Prepare hr46) rfl Try.call16 (Dels.cons del6 (Dels.cons del5 Dels.nil)) rfl fun _ _ => oA rfl rfl <| nT <| CJ_seq <| sR <| oM rfl rfl <| oP (P_eql (a := r45.1) (b := (14 : Int)) rfl rfl) rfl <| nT <| CJ_condP rfl bT_dec (fun hg5 => ?_) (fun hg5 => ?_)
      ·
       replace h := ite_t hg5 h
       refine sR ?_
       obtain ⟨r47, hr48, h⟩ := bind_e h
       refine oO <| O_call (L_volumegrouplaw12_awake hr48) rfl Try.call14 Dels.nil rfl fun _ _ => oA rfl rfl <| nT <| CJ_ret <| QJ_then_ret <| QJ_block_ret <| QJ_then_ret <| QJ_round_ret <| QJ_block_ret <| QJ_then_ret ?_
       have hE := Option.some.inj h
       replace hE := seq_inr hK23 hE.symm
       subst hE
       exact fE (res1 Try.results4 rfl) () (t3_ (eD (eD (eD (eD (eD (eD eR)))))))
      ·
       replace h := ite_f hg5 h
       refine kT <| sR <| oA rfl rfl <| nT <| CJ_seq <| sR <| oM rfl rfl <| oP (P_eql (a := r45.1) (b := (0 : Int)) rfl rfl) rfl <| nT ?_
       obtain ⟨y51, hl49, hK50⟩ := bind_c h
       refine CJ_cutT (X := Int × Bool × Bool × Nat × ByteArray × Bool × Nat × ByteArray × ArrS) [15, 16, 56, 57, 58, 59, 60, 61, 62, 63] (fun a61 => ([(15, .int .i64 a61.1), (16, .bool a61.2.1)] : Slots)) (fun a61 R => blk b18 34 [.bool a61.2.2.1, .int .i64 (((a61.2.2.2.1 : Nat) : Int)), .string a61.2.2.2.2.1] :: blk b19 34 [.bool a61.2.2.2.2.2.1, .int .i64 (((a61.2.2.2.2.2.2.1 : Nat) : Int)), .string a61.2.2.2.2.2.2.2.1] :: Arr X12.1 a61.2.2.2.2.2.2.2.2 :: R) (fun a61 => y51 = a61) (Dels.cons del5 (Dels.cons del5 (Dels.cons del1 Dels.nil))) ?_ ?_
       ·
        have h := hl49
        refine CJ_condP rfl bT_dec (fun hg6 => ?_) (fun hg6 => ?_)
        ·
         replace h := ite_t hg6 h
         refine sR <| oM rfl rfl <| oM rfl rfl <| oP (P_build rfl (bld_34_0_1_2 _ _ _)) rfl <| oO <| O_storeN rfl rfl foc6 Try.sizeOf34 rfl rfl rfl <| oA rfl rfl <| nT <| sR <| oM rfl rfl ?_
         obtain ⟨r62, hr63, h⟩ := bind_e h
         refine oO <| O_call (L_ring_Switch hr63) rfl Try.call17 (Dels.cons del0 (Dels.cons del0 Dels.nil)) rfl fun _ _ => oA rfl rfl <| nT <| sR <| oM rfl rfl <| oP (P_eql (a := r62.1) (b := (0 : Int)) rfl rfl) rfl <| nT <| CJ_condP rfl bT_dec (fun hg7 => ?_) (fun hg7 => ?_)
         ·
          replace h := ite_t hg7 h
          exact CJ_region <| oV (V_loadN rfl foc6 Try.isAgg34 Try.sizeOf34 rfl rfl) rfl <| oO <| O_storeN rfl rfl foc5 Try.sizeOf34 rfl rfl rfl <| RJ_nil <| cR (r62.1, true, true, x42, r43.1, true, x42, r43.1, r62.2) (Option.some.inj h).symm ⟨rfl, rfl, True.intro⟩ (t5_ (t5_ (t1_ eR)))
         ·
          replace h := ite_f hg7 h
          exact CJ_skip <| cR (r62.1, true, x34, x35, x36, true, x42, r43.1, r62.2) (Option.some.inj h).symm ⟨rfl, rfl, True.intro⟩ (t5_ (t5_ (t1_ eR)))
        ·
         replace h := ite_f hg6 h
         exact CJ_skip <| cR (r45.1, false, x34, x35, x36, x37, x38, x39, r45.2) (Option.some.inj h).symm ⟨rfl, rfl, True.intro⟩ (t5_ (t5_ (t1_ eR)))
       ·
        rintro a61 hy64
        replace h := bindK_at hK50 hy64
        show CJ _ _ _ _ _ (([(15, .int .i64 a61.1), (16, .bool a61.2.1)] : Slots) ++ forget _ _) (blk b18 34 [.bool a61.2.2.1, .int .i64 (((a61.2.2.2.1 : Nat) : Int)), .string a61.2.2.2.2.1] :: blk b19 34 [.bool a61.2.2.2.2.2.1, .int .i64 (((a61.2.2.2.2.2.2.1 : Nat) : Int)), .string a61.2.2.2.2.2.2.2.1] :: Arr X12.1 a61.2.2.2.2.2.2.2.2 :: _)
        refine CJ_seq <| sR <| oM rfl rfl <| oP (P_eql (a := a61.1) (b := (0 : Int)) rfl rfl) rfl <| nT <| CJ_condP rfl bT_dec (fun hg8 => ?_) (fun hg8 => ?_)
        ·
         replace h := ite_t hg8 h
         exact CJ_exit <| QJ_then_exit <| QJ_block_here <| QJ_then <| CJ_region <| oM rfl rfl <| oP (PJ_eq (P_add (a := ((x42 : Nat) : Int)) (b := (1 : Int)) rfl rfl (by omega)) rfl) rfl <| oA rfl rfl <| RJ_nil <| nR ⟨n, a61.2.2.1, a61.2.2.2.1, a61.2.2.2.2.1, a61.2.2.2.2.2.1, a61.2.2.2.2.2.2.1, a61.2.2.2.2.2.2.2.1, r43.2, a61.2.2.2.2.2.2.2.2, (x42 + 1)⟩ h ⟨rfl, True.intro⟩ (t0_ (t0_ (t2_ (t0_ (t2_ eR)))))
        ·
         replace h := ite_f hg8 h
         refine kT <| sR <| oM rfl rfl <| oM rfl rfl ?_
         obtain ⟨r65, hr66, h⟩ := bind_e h
         refine oO <| O_call (L_volumegroupmake_Keep hr66) rfl Try.call24 Dels.nil rfl fun X67 _ => ?_
         obtain ⟨hg9, h⟩ := grd_Le h
         refine oO <| O_call (c_Restart (Reads.sl _ _ _) hg9) rfl Try.call23 (Dels.cons del3 (Dels.cons del0 Dels.nil)) rfl fun _ _ => RJ_nil <| QJ_ent (t0_ (t1_ (t1_ (t1_ (t1_ (t1_ (t1_ (eD eR)))))))) <| QJ_then <| sR <| oM rfl rfl ?_
         obtain ⟨r69, hr70, h⟩ := bind_e h
         refine oO <| O_call (L_ring_Read hr70) rfl Try.call18 (Dels.cons del3 (Dels.cons del0 Dels.nil)) rfl fun _ _ => oM rfl rfl <| oP (P_extract rfl rfl) rfl <| oP (P_extract rfl rfl) rfl <| oO <| O_alloc Try.zeroValue34 rfl rfl fun b71 => oO <| O_storeN rfl rfl foc0 Try.sizeOf34 rfl rfl rfl <| oA rfl rfl <| nT <| sR <| oM rfl rfl <| oP (P_eql (a := r69.2) (b := (12 : Int)) rfl rfl) rfl <| oM rfl rfl <| RJ_mbT rfl rfl rfl (fun hG72 => have hP73 : (r69.2 = (12 : Int)) := (bT_dec).1 hG72; VJ_P (P_fieldAddr rfl ⟨_, _, _, Try.runUnderlying34, rfl, rfl, Try.sizeOf4, rfl⟩)) <| RJ_mbT rfl rfl rfl (fun hG74 => have hP75 : (r69.2 = (12 : Int)) := (bT_dec).1 hG74; V_load (mbx hG74 rfl) foc3 rfl Try.isAgg4) <| RJ_mbT rfl rfl rfl (fun hG76 => have hP77 : (r69.2 = (12 : Int)) := (bT_dec).1 hG76; VJ_P (P_not (mbx hG76 rfl))) <| oP (P_pickAnd rfl (fun hh => mbx hh rfl) rfl) rfl <| oA rfl rfl <| nT <| sR <| oM rfl rfl <| oP (P_eql (a := a61.1) (b := (5 : Int)) rfl rfl) rfl <| oM rfl rfl <| RJ_mbT rfl rfl rfl (fun hG78 => have hP79 : (a61.1 = (5 : Int)) := (bT_dec).1 hG78; VJ_P (P_move rfl)) <| RJ_mbT rfl rfl rfl (fun hG80 => have hP81 : (a61.1 = (5 : Int)) := (bT_dec).1 hG80; VJ_P (P_eql (a := r69.2) (b := (0 : Int)) (mbx hG80 rfl) rfl)) <| RJ_mbT rfl rfl rfl (fun hG82 => have hP83 : (a61.1 = (5 : Int)) := (bT_dec).1 hG82; VJ_P (P_move (mbx hG82 rfl))) ?_
         refine RJ_mbGF rfl rfl rfl (fun hG84 => have hP85 : (a61.1 = (5 : Int)) := (bT_dec).1 (and_l hG84); have hP86 : ¬ (r69.2 = (0 : Int)) := nP (bT_dec) (and_r hG84); VJ_P (P_move rfl)) <| RJ_mbT rfl rfl rfl (fun hG87 => have hP88 : (a61.1 = (5 : Int)) := (bT_dec).1 hG87; VJ_P (P_pickOr (mbx hG87 rfl) rfl (fun hh => mbx (and_i hG87 (not_f hh)) rfl))) <| oP (P_pickAnd rfl (fun hh => mbx hh rfl) rfl) rfl <| oM rfl rfl <| RJ_mbT rfl rfl rfl (fun hG89 => have hP90 : ((a61.1 = (5 : Int)) ∧ ((r69.2 = (0 : Int)) ∨ ((r69.2 = (12 : Int)) ∧ (¬ a61.2.2.1 = true)))) := ((bT_and bT_dec (bT_or bT_dec (bT_and bT_dec (bT_not Iff.rfl))))).1 hG89; V_loadN rfl foc0 Try.isAgg34 Try.sizeOf34 rfl rfl) <| RJ_mbT rfl rfl rfl (fun hG91 => have hP92 : ((a61.1 = (5 : Int)) ∧ ((r69.2 = (0 : Int)) ∨ ((r69.2 = (12 : Int)) ∧ (¬ a61.2.2.1 = true)))) := ((bT_and bT_dec (bT_or bT_dec (bT_and bT_dec (bT_not Iff.rfl))))).1 hG91; V_loadN rfl foc3 Try.isAgg34 Try.sizeOf34 rfl rfl) <| RJ_mbT rfl rfl rfl (fun hG93 => have hP94 : ((a61.1 = (5 : Int)) ∧ ((r69.2 = (0 : Int)) ∨ ((r69.2 = (12 : Int)) ∧ (¬ a61.2.2.1 = true)))) := ((bT_and bT_dec (bT_or bT_dec (bT_and bT_dec (bT_not Iff.rfl))))).1 hG93; VJ_P (P_eqlS (enc := (tyapi_Copy).enc) (r69.1) ((⟨a61.2.2.1, ((a61.2.2.2.1 : Nat) : Int), a61.2.2.2.2.1⟩ : api_Copy)) (mbx hG93 rfl) (mbx hG93 rfl) eqs_34 (by kernel_rfl))) ?_
         refine RJ_mbT rfl rfl rfl (fun hG95 => have hP96 : ((a61.1 = (5 : Int)) ∧ ((r69.2 = (0 : Int)) ∨ ((r69.2 = (12 : Int)) ∧ (¬ a61.2.2.1 = true)))) := ((bT_and bT_dec (bT_or bT_dec (bT_and bT_dec (bT_not Iff.rfl))))).1 hG95; VJ_P (P_move (mbx hG95 rfl))) <| RJ_mbGF rfl rfl rfl (fun hG97 => have hP98 : ((a61.1 = (5 : Int)) ∧ ((r69.2 = (0 : Int)) ∨ ((r69.2 = (12 : Int)) ∧ (¬ a61.2.2.1 = true)))) := ((bT_and bT_dec (bT_or bT_dec (bT_and bT_dec (bT_not Iff.rfl))))).1 (and_l hG97); have hP99 : ¬ (r69.1 = (⟨a61.2.2.1, ((a61.2.2.2.1 : Nat) : Int), a61.2.2.2.2.1⟩ : api_Copy)) := nP (bT_dec) (and_r hG97); VJ_P (P_move rfl)) <| RJ_mbGF rfl rfl rfl (fun hG100 => have hP101 : ((a61.1 = (5 : Int)) ∧ ((r69.2 = (0 : Int)) ∨ ((r69.2 = (12 : Int)) ∧ (¬ a61.2.2.1 = true)))) := ((bT_and bT_dec (bT_or bT_dec (bT_and bT_dec (bT_not Iff.rfl))))).1 (and_l hG100); have hP102 : ¬ (r69.1 = (⟨a61.2.2.1, ((a61.2.2.2.1 : Nat) : Int), a61.2.2.2.2.1⟩ : api_Copy)) := nP (bT_dec) (and_r hG100); VJ_P (P_move (mbx hG100 rfl))) <| RJ_mbGT rfl rfl rfl (fun hG103 => have hP104 : ((a61.1 = (5 : Int)) ∧ ((r69.2 = (0 : Int)) ∨ ((r69.2 = (12 : Int)) ∧ (¬ a61.2.2.1 = true)))) := ((bT_and bT_dec (bT_or bT_dec (bT_and bT_dec (bT_not Iff.rfl))))).1 (and_l (and_l hG103)); have hP105 : ¬ (r69.1 = (⟨a61.2.2.1, ((a61.2.2.2.1 : Nat) : Int), a61.2.2.2.2.1⟩ : api_Copy)) := nP (bT_dec) (and_r (and_l hG103)); have hP106 : a61.2.1 = true := (Iff.rfl).1 (and_r hG103); V_loadN rfl foc0 Try.isAgg34 Try.sizeOf34 rfl rfl) ?_
         refine RJ_mbGT rfl rfl rfl (fun hG107 => have hP108 : ((a61.1 = (5 : Int)) ∧ ((r69.2 = (0 : Int)) ∨ ((r69.2 = (12 : Int)) ∧ (¬ a61.2.2.1 = true)))) := ((bT_and bT_dec (bT_or bT_dec (bT_and bT_dec (bT_not Iff.rfl))))).1 (and_l (and_l hG107)); have hP109 : ¬ (r69.1 = (⟨a61.2.2.1, ((a61.2.2.2.1 : Nat) : Int), a61.2.2.2.2.1⟩ : api_Copy)) := nP (bT_dec) (and_r (and_l hG107)); have hP110 : a61.2.1 = true := (Iff.rfl).1 (and_r hG107); V_loadN rfl foc4 Try.isAgg34 Try.sizeOf34 rfl rfl) <| RJ_mbGT rfl rfl rfl (fun hG111 => have hP112 : ((a61.1 = (5 : Int)) ∧ ((r69.2 = (0 : Int)) ∨ ((r69.2 = (12 : Int)) ∧ (¬ a61.2.2.1 = true)))) := ((bT_and bT_dec (bT_or bT_dec (bT_and bT_dec (bT_not Iff.rfl))))).1 (and_l (and_l hG111)); have hP113 : ¬ (r69.1 = (⟨a61.2.2.1, ((a61.2.2.2.1 : Nat) : Int), a61.2.2.2.2.1⟩ : api_Copy)) := nP (bT_dec) (and_r (and_l hG111)); have hP114 : a61.2.1 = true := (Iff.rfl).1 (and_r hG111); VJ_P (P_eqlS (enc := (tyapi_Copy).enc) (r69.1) ((⟨a61.2.2.2.2.2.1, ((a61.2.2.2.2.2.2.1 : Nat) : Int), a61.2.2.2.2.2.2.2.1⟩ : api_Copy)) (mbx hG111 rfl) (mbx hG111 rfl) eqs_34 (by kernel_rfl))) ?_
         refine RJ_mbGF rfl rfl rfl (fun hG115 => have hP116 : ((a61.1 = (5 : Int)) ∧ ((r69.2 = (0 : Int)) ∨ ((r69.2 = (12 : Int)) ∧ (¬ a61.2.2.1 = true)))) := ((bT_and bT_dec (bT_or bT_dec (bT_and bT_dec (bT_not Iff.rfl))))).1 (and_l hG115); have hP117 : ¬ (r69.1 = (⟨a61.2.2.1, ((a61.2.2.2.1 : Nat) : Int), a61.2.2.2.2.1⟩ : api_Copy)) := nP (bT_dec) (and_r hG115); VJ_P (P_pickAnd (mbx hG115 rfl) (fun hh => mbx (and_i hG115 hh) rfl) rfl)) <| RJ_mbT rfl rfl rfl (fun hG118 => have hP119 : ((a61.1 = (5 : Int)) ∧ ((r69.2 = (0 : Int)) ∨ ((r69.2 = (12 : Int)) ∧ (¬ a61.2.2.1 = true)))) := ((bT_and bT_dec (bT_or bT_dec (bT_and bT_dec (bT_not Iff.rfl))))).1 hG118; VJ_P (P_pickOr (mbx hG118 rfl) rfl (fun hh => mbx (and_i hG118 (not_f hh)) rfl))) <| oP (P_pickAnd rfl (fun hh => mbx hh rfl) rfl) rfl <| oM rfl rfl <| RJ_splitP 104 rfl (bT_and (bT_and bT_dec (bT_or bT_dec (bT_and bT_dec (bT_not Iff.rfl)))) (bT_or bT_dec (bT_and Iff.rfl bT_dec))) (fun hg10B hg10 => ?_) (fun hg10B hg10 => ?_)
         ·
          replace h := ite_t hg10 h
          obtain ⟨r120, hr121, h⟩ := bind_e h
          refine RJ_gy (GY_yes rfl rfl rfl hg10B) <| O_call (L_volumegrouplaw12_awake hr121) rfl Try.call14 Dels.nil rfl fun _ _ => oP (P_pickT rfl hg10B rfl) rfl <| oA rfl rfl <| RJ_nil <| QJ_ent (t1_ (t1_ (t1_ (t1_ (t1_ (t1_ (t1_ (eD eR)))))))) <| QJ_then <| CJ_ret <| QJ_block_ret <| QJ_then_ret <| QJ_round_ret <| QJ_block_ret <| QJ_then_ret ?_
          have hE := Option.some.inj h
          replace hE := seq_inr hK23 hE.symm
          subst hE
          exact fE (res1 Try.results4 rfl) () (t5_ (eD (eD (eD (eD (eD (eD eR)))))))
         ·
          replace h := ite_f hg10 h
          refine RJ_gn (GY_no rfl rfl rfl hg10B) rfl rfl <| oP (P_pickF rfl hg10B rfl) rfl <| oA rfl rfl <| RJ_nil <| QJ_ent (t1_ (t1_ (t1_ (t1_ (t1_ (t1_ (t1_ (eD eR)))))))) <| QJ_then <| CJ_ret <| QJ_block_ret <| QJ_then_ret <| QJ_round_ret <| QJ_block_ret <| QJ_then_ret ?_
          have hE := Option.some.inj h
          replace hE := seq_inr hK23 hE.symm
          subst hE
          exact fE (res1 Try.results4 rfl) () (t5_ (eD (eD (eD (eD (eD (eD eR)))))))
     ·
      replace h := ite_f hg4 h
      exact CJ_exit <| QJ_then_exit <| QJ_round_exit <| QJ_block_here <| cR (x37, x38, x39, x34, x35, x36, x40, x41) (Option.some.inj h).symm True.intro (t1_ eR)
   ·
    rintro a33 hy122
    replace h := seq_inl hK23 hy122
    show CJ _ _ _ _ _ (([] : Slots) ++ forget _ _) (blk b19 34 [.bool a33.1, .int .i64 (((a33.2.1 : Nat) : Int)), .string a33.2.2.1] :: blk b18 34 [.bool a33.2.2.2.1, .int .i64 (((a33.2.2.2.2.1 : Nat) : Int)), .string a33.2.2.2.2.2.1] :: blk X4.1 117 [X4.2, .int .i64 a33.2.2.2.2.2.2.1] :: Arr X12.1 a33.2.2.2.2.2.2.2 :: _)
    refine sR <| oM rfl rfl ?_
    obtain ⟨r123, hr124, h⟩ := bind_e h
    refine oO <| O_call (L_ring_Read hr124) rfl Try.call18 (Dels.cons del5 (Dels.cons del3 Dels.nil)) rfl fun _ _ => oM rfl rfl <| oP (P_extract rfl rfl) rfl <| oP (P_extract rfl rfl) rfl <| oO <| O_alloc Try.zeroValue34 rfl rfl fun b125 => oO <| O_storeN rfl rfl foc0 Try.sizeOf34 rfl rfl rfl <| oA rfl rfl <| RJ_nil <| QJ_ent (t0_ (t1_ (t2_ (t4_ (eD (eD (eD (eD eR)))))))) <| QJ_then <| sR <| oM rfl rfl <| oP (P_eql (a := r123.2) (b := (0 : Int)) rfl rfl) rfl <| oM rfl rfl <| RJ_mbT rfl rfl rfl (fun hG126 => have hP127 : (r123.2 = (0 : Int)) := (bT_dec).1 hG126; V_loadN rfl foc0 Try.isAgg34 Try.sizeOf34 rfl rfl) <| RJ_mbT rfl rfl rfl (fun hG128 => have hP129 : (r123.2 = (0 : Int)) := (bT_dec).1 hG128; V_loadN rfl foc2 Try.isAgg34 Try.sizeOf34 rfl rfl) <| RJ_mbT rfl rfl rfl (fun hG130 => have hP131 : (r123.2 = (0 : Int)) := (bT_dec).1 hG130; VJ_P (P_eqlS (enc := (tyapi_Copy).enc) (r123.1) ((⟨a33.2.2.2.1, ((a33.2.2.2.2.1 : Nat) : Int), a33.2.2.2.2.2.1⟩ : api_Copy)) (mbx hG130 rfl) (mbx hG130 rfl) eqs_34 (by kernel_rfl))) <| oP (P_pickAnd rfl (fun hh => mbx hh rfl) rfl) rfl <| oM rfl rfl <| RJ_splitP 119 rfl (bT_and bT_dec bT_dec) (fun hg11B hg11 => ?_) (fun hg11B hg11 => ?_)
    ·
     replace h := ite_t hg11 h
     obtain ⟨r132, hr133, h⟩ := bind_e h
     refine RJ_gy (GY_yes rfl rfl rfl hg11B) <| O_call (L_volumegrouplaw12_awake hr133) rfl Try.call14 Dels.nil rfl fun _ _ => oP (P_pickT rfl hg11B rfl) rfl <| oA rfl rfl <| nT <| CJ_ret ?_
     cases h
     exact fE (res1 Try.results4 rfl) () (t3_ (eD (eD (eD eR))))
    ·
     replace h := ite_f hg11 h
     refine RJ_gn (GY_no rfl rfl rfl hg11B) rfl rfl <| oP (P_pickF rfl hg11B rfl) rfl <| oA rfl rfl <| nT <| CJ_ret ?_
     cases h
     exact fE (res1 Try.results4 rfl) () (t3_ (eD (eD (eD eR))))
end Go.Proofs
namespace Go.Proofs
open Go.VG
theorem new_ok (l : List Int) : ∃ L, volumegroupmake_New l = some (L, 0) ∧ L.length ≤ 1000 := by
  unfold volumegroupmake_New
  by_cases h : (1000 : Int) < ((l.length : Nat) : Int)
  · rw [if_pos h]; exact ⟨_, rfl, by simp; omega⟩
  · rw [if_neg h]; exact ⟨_, rfl, by omega⟩
theorem raw_ok {L : List Int} {a : Int} (hL : L.length ≤ 1000) (h : 0 ≤ a ∧ a ≤ 1000) : ∃ v b, volumegroupmake_Src_Raw L a = some (v, b) ∧ 0 ≤ b ∧ b ≤ 1000 := by
  unfold volumegroupmake_Src_Raw
  by_cases h1 : ((L.length : Nat) : Int) ≤ a
  · rw [if_pos h1]; exact ⟨_, _, rfl, h.1, h.2⟩
  · rw [if_neg h1, grd_t (inI64_of (by omega)), grd_t (inI64_of (by omega)), grd_t (decide_eq_true (by omega))]
    exact ⟨_, _, rfl, by omega, by omega⟩
theorem srcN_ok {L : List Int} {a n : Int} (hL : L.length ≤ 1000) (h : 0 ≤ a ∧ a ≤ 1000) (hn : n ≤ 1000000000) : ∃ v b, volumegroupmake_Src_N L a n = some (v, b) ∧ (0 ≤ b ∧ b ≤ 1000) ∧ 0 ≤ v ∧ (1 ≤ n → v < n) ∧ (n < 1 → v = 0) := by
  unfold volumegroupmake_Src_N
  by_cases h1 : n < 1
  · rw [if_pos h1]; exact ⟨_, _, rfl, h, Int.le_refl _, fun x => by omega, fun _ => rfl⟩
  · rw [if_neg h1]
    obtain ⟨v, b, h2, h3⟩ := raw_ok hL h
    rw [h2]; simp only [Option.bind_some]
    have h4 := Int.natAbs_tmod v n
    have h5 := Nat.mod_lt v.natAbs (show 0 < n.natAbs by omega)
    by_cases h6 : v.tmod n < 0
    · rw [if_pos h6, grd_t (inI64_of (by omega))]
      exact ⟨_, _, rfl, h3, by omega, fun _ => by omega, fun x => by omega⟩
    · rw [if_neg h6]
      exact ⟨_, _, rfl, h3, by omega, fun _ => by omega, fun x => by omega⟩
theorem srcRange_ok {L : List Int} {a lo hi : Int} (hL : L.length ≤ 1000) (h : 0 ≤ a ∧ a ≤ 1000) (h1 : -1000000 ≤ lo ∧ lo ≤ hi ∧ hi ≤ 1000000) : ∃ v b, volumegroupmake_Src_Range L a lo hi = some (v, b) ∧ (0 ≤ b ∧ b ≤ 1000) ∧ lo ≤ v ∧ v ≤ hi := by
  unfold volumegroupmake_Src_Range
  obtain ⟨v, b, h2, h3, h4, h5, -⟩ := srcN_ok (n := hi - lo + 1) hL h (by omega)
  have := h5 (by omega)
  rw [grd_t (inI64_of (by omega)), grd_t (inI64_of (by omega)), h2]; simp only [Option.bind_some]
  rw [grd_t (inI64_of (by omega))]
  exact ⟨_, _, rfl, h3, by omega, by omega⟩
theorem srcWord_ok {L : List Int} {a : Int} {l : List ByteArray} (hL : L.length ≤ 1000) (h : 0 ≤ a ∧ a ≤ 1000) (hl : 1 ≤ l.length ∧ l.length ≤ 1000) : ∃ (v : Nat) (b : Int), volumegroupmake_Src_Word L a l = some (l.getD v ByteArray.empty, b) ∧ (0 ≤ b ∧ b ≤ 1000) ∧ v < l.length := by
  unfold volumegroupmake_Src_Word
  obtain ⟨v, b, h2, h3, h4, h5, -⟩ := srcN_ok (n := ((l.length : Nat) : Int)) hL h (by omega)
  have := h5 (by omega)
  rw [h2]; simp only [Option.bind_some]
  rw [grd_pos (decide_eq_true (by omega))]
  exact ⟨v.toNat, b, rfl, h3, by omega⟩
theorem Hold.freeB {A B : Nat → UInt64} {r n : Nat} {c : Option Txt} (h : Hold A r 0 c) (hr : 0 < r) (hn : n + oLen c ≤ r) (hB : ∀ b, b < 2 + r → (∀ j, j < n → b ≠ plc r (nextSt r c) j) → B b = A b) : Hold B r 0 c := by
  refine h.congr (hB 0 (by omega) (fun j _ e => ?_)).symm fun i hi => (hB _ (plc_lt hr) (fun j hj e => ?_)).symm
  · have := plc_ge (r := r) (st := nextSt r c) (i := j); omega
  · exact next_ne hi hj hn e.symm
def lastV : Option Txt → Bool
  | none => false
  | some _ => true
def lastQ : Option Txt → Nat
  | none => 0
  | some t => t.q
def lastT : Option Txt → ByteArray
  | none => ByteArray.empty
  | some t => t.s
theorem read_last {ns : List Nat} {K d n : Nat} {s : ArrS} {c : Option Txt} (h : Lv ns K d n s) (hh : Hold (now s d) (rgR n) 0 c) : ring_Read (Dk d n) s = some (⟨lastV c, ((lastQ c : Nat) : Int), lastT c⟩, if lastV c = true then 0 else 12) := by
  rw [read_hold h hh]
  cases c <;> rfl
theorem after_fail {K n m : Nat} {s u : ArrS} {c : Option Txt} (h : Lv [n] K 0 n s) (hh : Hold (now s 0) (rgR n) 0 c) (hm : m + oLen c ≤ rgR n) (hu : ArrOk [n] (K + 100) u) (hK : K ≤ 700000) (hmiss : ∀ e, miss u e = miss s e)
    (hc : ∀ b, b < n → (∀ j, j < m → b ≠ plc (rgR n) (nextSt (rgR n) c) j) → cand u 0 b = cand s 0 b) (ks : List Bool) :
    ring_Read (Dk 0 n) (rsS u ks) = some (⟨lastV c, ((lastQ c : Nat) : Int), lastT c⟩, if lastV c = true then 0 else 12) := by
  obtain ⟨r1, r2, r3⟩ := rg_le h.h4 h.hb
  have R := hu.rs ks
  refine read_last (ns := [n]) (K := K + 100) ⟨R.ok, R.dn, h.hd, h.hn, h.h4, h.hb, by rw [R.miss, hmiss]; exact h.ms, fun b _ => R.cand 0 b, by omega⟩ ?_
  refine hh.freeB (by omega) hm fun b hb hj => ?_
  have h1 := R.now 0 b (by simp) (by show b < n; omega)
  rw [hc b (by omega) hj, h.cl b (by omega)] at h1
  simpa using h1
abbrev txtsC : List ByteArray := [(ByteArray.mk #[97]), (ByteArray.mk #[101, 105, 103, 104, 116, 32, 98, 121]), (ByteArray.mk #[115, 111, 109, 101, 32, 108, 111, 110, 103, 101, 114, 32, 116, 101, 120, 116]), (ByteArray.mk #[118, 103, 32, 123, 32, 125]), (ByteArray.mk #[])]
theorem txtsC_size {v : Nat} : (txtsC.getD v ByteArray.empty).size ≤ 16 := by
  match v with
  | 0 => decide
  | 1 => decide
  | 2 => decide
  | 3 => decide
  | 4 => decide
  | _ + 5 => exact Nat.zero_le _
theorem crash_l1 {keep : UInt64} {L : List Int} {L0 : Nat} {n : Nat} (hL : L.length ≤ 1000) (hn : 4 ≤ n ∧ n ≤ 1000) : ∀ (N i K : Nat) (s : ArrS) (c : Option Txt) (nv : Bool) (nq : Nat) (nt : ByteArray) (a : Int), 9 - i < N → 1 ≤ i → i ≤ 9 → Lv [n] K 0 n s → K ≤ 10 * i →
    Hold (now s 0) (rgR n) 0 c → (1 < i → lastV c = true) → (0 ≤ a ∧ a ≤ 1000) →
    volumegrouplaw12_RingCrash_l1 keep (L, L0) (Dk 0 n) N (lastV c) (lastQ c) (lastT c) nv nq nt a s i = some (.inr true) ∨
    ∃ c' nv' nq' nt' a' t K', volumegrouplaw12_RingCrash_l1 keep (L, L0) (Dk 0 n) N (lastV c) (lastQ c) (lastT c) nv nq nt a s i = some (.inl (nv', nq', nt', lastV c', lastQ c', lastT c', a', t)) ∧ Lv [n] K' 0 n t ∧ Hold (now t 0) (rgR n) 0 c' ∧ lastV c' = true
  | 0, _, _, _, _, _, _, _, _, h, _, _, _, _, _, _, _ => absurd h (by omega)
  | N + 1, i, K, s, c, nv, nq, nt, a, h, hi1, hi, hs, hK, hh, hcv, ha => by
    have e : volumegrouplaw12_RingCrash_l1 keep (L, L0) (Dk 0 n) (N + 1) (lastV c) (lastQ c) (lastT c) nv nq nt a s i = volumegrouplaw12_RingCrash_l1_b keep (L, L0) (Dk 0 n) (volumegrouplaw12_RingCrash_l1 keep (L, L0) (Dk 0 n) N) (lastV c) (lastQ c) (lastT c) nv nq nt a s i := rfl
    rw [e]
    unfold volumegrouplaw12_RingCrash_l1_b
    by_cases hlt : i < 9
    · rw [if_pos (by omega)]
      obtain ⟨v, b, h1, hb, _⟩ := srcWord_ok (L := L) (a := a) (l := txtsC) hL ha (by simp)
      rw [h1]; simp only [Option.bind_some]
      have hx := txtsC_size (v := v)
      generalize txtsC.getD v ByteArray.empty = x at hx
      have hl : (encT x).length ≤ 3 := by rw [encT_len]; unfold bytesN; omega
      obtain ⟨ks, hks⟩ := keep_ok keep
      rcases prep_hold hs (by omega) hh (q := i) (x := x) (by omega) (by omega) with ⟨_, h2⟩ | ⟨hfit, ⟨t, h2, h3, h4, h5, h6⟩ | ⟨_, _, t, h2, h3⟩⟩
      · rw [h2]; simp only [Option.bind_some]
        rw [if_pos trivial, awake12]
        exact .inl rfl
      · rw [h2]; simp only [Option.bind_some]
        rw [if_neg (by decide), if_pos trivial]
        rcases switch_hold h4 (by omega) h6 with ⟨_, u, k1, k2, k3, k4⟩ | ⟨_, u, k1, k2⟩
        · rw [k1]; simp only [Option.bind_some]
          rw [if_pos trivial]; simp only [Option.bind_some]
          rw [if_pos trivial]
          exact crash_l1 hL hn N (i + 1) _ u (some ⟨i, nextSt (rgR n) c, x⟩) true i x b (by omega) (by omega) (by omega) k3 (by omega) k4 (fun _ => rfl) hb
        · rw [k1]; simp only [Option.bind_some]
          rw [if_neg (by decide)]; simp only [Option.bind_some]
          rw [if_neg (by decide), hks]; simp only [Option.bind_some]
          have hw := k2.ok.wr
          rw [grd_pos (inLen_of (by omega)), after_fail (m := 0) h4 h5 (by have := h5.len; omega) (k2.ok.mono (by omega)) (by omega) k2.miss (fun b hb _ => k2.cand 0 b) ks]
          simp only [Option.bind_some]
          rw [if_pos ⟨⟨trivial, by cases lastV c <;> simp⟩, .inl trivial⟩, awake12]
          exact .inl rfl
      · rw [h2]; simp only [Option.bind_some]
        rw [if_neg (by decide), if_neg (by decide)]; simp only [Option.bind_some]
        rw [if_neg (by decide), hks]; simp only [Option.bind_some]
        have hw := h3.ok.wr
        rw [grd_pos (inLen_of (by omega)), after_fail (m := (encT x).length) hs hh hfit (h3.ok.mono (by omega)) (by omega) h3.miss (fun b hb hj => h3.cand 0 b (by simp) (by show b < n; exact hb) (fun _ => hj)) ks]
        simp only [Option.bind_some]
        rw [if_pos ⟨⟨trivial, by cases lastV c <;> simp⟩, .inl trivial⟩, awake12]
        exact .inl rfl
    · rw [if_neg (by omega)]
      exact .inr ⟨c, nv, nq, nt, a, s, K, rfl, hs, hh, hcv (by omega)⟩
theorem Lv.setFuse {ns : List Nat} {K d n m : Nat} {s : ArrS} (h : Lv ns K d n s) : Lv ns K d n { s with fuse := m } := ⟨h.ok.fuse, h.dn, h.hd, h.hn, h.h4, h.hb, h.ms, h.cl, h.hK⟩
theorem PRingCrash (l : List Int) (fuse : UInt8) (keep : UInt64) : volumegrouplaw12_RingCrash l fuse keep = some true := by
  unfold volumegrouplaw12_RingCrash
  obtain ⟨L, h1, hL⟩ := new_ok l
  rw [h1]; simp only [Option.bind_some]
  obtain ⟨v, b, h2, hb, hv1, hv2⟩ := srcRange_ok (L := L) (a := ((0 : Nat) : Int)) (lo := 8) (hi := 24) hL (by omega) (by omega)
  rw [h2]; simp only [Option.bind_some]
  obtain ⟨n, rfl⟩ : ∃ n : Nat, v = (n : Int) := ⟨v.toNat, by omega⟩
  rw [grd_pos (decide_eq_true (by omega)), show ((n : Nat) : Int).toNat = n by omega, area_eq (by rw [List.length_replicate]; omega)]
  simp only [Option.bind_some, Option.elim, List.length_replicate]
  have hf60 : (fuse % (60 : UInt8)).toNat < 60 := by
    rw [UInt8.toNat_mod]; exact Nat.mod_lt _ (by decide)
  generalize (fuse % (60 : UInt8)).toNat = f at hf60 ⊢
  rw [grd_pos (inN64_of (by omega)), grd_pos (inI64_of (by omega))]
  have hLv := lv_mkS (w := List.replicate n 0) (by rw [List.length_replicate]; omega) (by rw [List.length_replicate]; omega)
  rw [List.length_replicate] at hLv
  have hH : Hold (now (mkS [List.replicate n 0]) 0) (rgR n) 0 none := by rw [now_mkS]; exact hold_zeros
  have hF := fuel_big
  generalize FUEL = N at hF ⊢
  rcases crash_l1 (keep := keep) (L := L) (L0 := 0) (n := n) hL (by omega) N 1 0 { mkS [List.replicate n 0] with fuse := ((((1 + f) : Nat) : Int)).toNat } none false 0 ByteArray.empty b (by omega) (by omega) (by omega) hLv.setFuse (by omega) hH (fun h => absurd h (by omega)) hb with h3 | ⟨c, nv, nq, nt, a', t, K', h3, h4, h5, h6⟩
  · show seqO (volumegrouplaw12_RingCrash_l1 keep (L, 0) (Dk 0 n) N (lastV none) (lastQ none) (lastT none) false 0 ByteArray.empty b { mkS [List.replicate n 0] with fuse := ((((1 + f) : Nat) : Int)).toNat } 1) _ = _
    rw [h3]; rfl
  · show seqO (volumegrouplaw12_RingCrash_l1 keep (L, 0) (Dk 0 n) N (lastV none) (lastQ none) (lastT none) false 0 ByteArray.empty b { mkS [List.replicate n 0] with fuse := ((((1 + f) : Nat) : Int)).toNat } 1) _ = _
    rw [h3]
    simp only [seqO, Option.bind_some, Sum.elim_inl]
    rw [read_last h4 h5, h6]; simp only [Option.bind_some]
    rw [if_pos (by simp), awake12]; rfl
end Go.Proofs
