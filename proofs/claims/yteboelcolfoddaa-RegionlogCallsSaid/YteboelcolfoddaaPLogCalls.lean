/- RegionlogCalls: calls to a log of which nothing fails. -/
import Derived.Test.YteboelcolfoddaaPLogOps
import Derived.Test.YteboelcolfoddaaPSpansA
import Derived.Test.YteboelcolfoddaaLRegionlogCalls
namespace Go.Proofs
open Go.VG
theorem awake20 : volumegrouplaw20_awake = some true := by kernel_rfl
def nsL : List Nat := [4]
structure CInv (i : Nat) (s : ArrS) (l : LogS) (b : List UInt64) : Prop where
  ok : ArrOk nsL (10 + i) s
  dn : s.down = false
  fuse : s.fuse = 0
  miss : Go.Proofs.miss s 0 = false
  lok : LogOk 0 4 100 l
  bits : l.bits = b
  now : ∀ w, w < 2 → Go.Proofs.now s 0 (1 + w) = b.getD w 0
  head : Go.Proofs.now s 0 0 = headL 100
  dur : ∀ r : Nat, (lookM l.durable (r : Int)).isSome = true → bitR b r = true
theorem nW100 : nW 100 = 2 := rfl
theorem mark_step {i : Nat} {s : ArrS} {l : LogS} {b : List UInt64} (h : CInv i s l b) (hi : i ≤ 100) {r : Nat} (hr : r < 100) : ∃ s' l', regionlog_Log_Mark l (r : Int) s = some (0, l', s') ∧ CInv (i + 1) s' l' (setR b r true) := by
  have hbl : b.length = 2 := by rw [← h.bits]; exact h.lok.len
  have hw : r / 64 < 2 := by omega
  by_cases hdur : (lookM l.durable (r : Int)).isSome = true
  · refine ⟨s, l, mark_dur h.lok hr hdur, ?_⟩
    rw [setR_same (h.dur r hdur)]
    exact { h with ok := h.ok.mono (by omega) }
  · rw [Bool.not_eq_true] at hdur
    rcases mark_out (ns := nsL) (by decide) rfl (by decide) h.lok h.ok h.dn h.miss (by omega) hr (by decide) (by decide) hdur with ⟨-, u, t, h1, h2, h3⟩ | ⟨h1, -⟩
    · refine ⟨t, _, h1, ⟨h3.ok.mono (by omega), h3.dn, by rw [h3.fuse, h2.fuse, h.fuse], by rw [h3.miss, h2.miss, h.miss], ⟨h.lok.x, h.lok.reg, by rw [← h.lok.len]; exact setR_length, nodup_setM _ _ _ h.lok.nd⟩, by rw [← h.bits], fun w hw2 => ?_, ?_, fun q hq => ?_⟩⟩
      · rw [h3.now, h2.now]
        by_cases e : r / 64 = w
        · subst e; rw [if_pos ⟨rfl, rfl⟩, h.bits]
        · rw [if_neg (fun x => e (by have := x.2; omega)), h.now w hw2]
          unfold setR; rw [getDU_set (by omega), if_neg (fun x => e x.symm)]
      · rw [h3.now, h2.now, if_neg (fun x => by have := x.2; omega)]; exact h.head
      · rw [bitR_setR (by omega)]
        by_cases e : q = r
        · rw [if_pos e]
        · rw [if_neg e]
          rw [lookM_setM, if_neg (by omega)] at hq
          exact h.dur q hq
    · rw [h.fuse] at h1; cases h1
theorem clear_step {i : Nat} {s : ArrS} {l : LogS} {b : List UInt64} (h : CInv i s l b) (hi : i ≤ 100) {r : Nat} (hr : r < 100) : ∃ s' l', regionlog_Log_Clear l (r : Int) s = some (0, l', s') ∧ CInv (i + 1) s' l' (setR b r false) := by
  have hbl : b.length = 2 := by rw [← h.bits]; exact h.lok.len
  have hw : r / 64 < 2 := by omega
  rcases clear_out (ns := nsL) (by decide) rfl (by decide) h.lok h.ok h.dn h.miss (by omega) hr (by decide) (by decide) with ⟨-, t, h1, h2⟩ | ⟨h1, -⟩
  · refine ⟨t, _, h1, ⟨h2.ok.mono (by omega), h2.dn, by rw [h2.fuse, h.fuse], by rw [h2.miss, h.miss], ⟨h.lok.x, h.lok.reg, by rw [← h.lok.len]; exact setR_length, nodup_delM _ _ h.lok.nd⟩, by rw [← h.bits], fun w hw2 => ?_, ?_, fun q hq => ?_⟩⟩
    · rw [h2.now]
      by_cases e : r / 64 = w
      · subst e; rw [if_pos ⟨rfl, rfl⟩, h.bits]
      · rw [if_neg (fun x => e (by have := x.2; omega)), h.now w hw2]
        unfold setR; rw [getDU_set (by omega), if_neg (fun x => e x.symm)]
    · rw [h2.now, if_neg (fun x => by have := x.2; omega)]; exact h.head
    · rw [lookM_delM _ _ _ h.lok.nd] at hq
      by_cases e : q = r
      · subst e; rw [if_pos rfl] at hq; cases hq
      · rw [if_neg (by omega)] at hq
        rw [bitR_setR (by omega), if_neg e]
        exact h.dur q hq
  · rw [h.fuse] at h1; cases h1
theorem tdiv64 {r : Nat} (hr : r < 1000) : IntKind.i64.wrap ((r : Int).tdiv (64 : Int)) = ((r / 64 : Nat) : Int) := div64 (by omega)
theorem tmod64 {r : Nat} : ((r : Int).tmod (64 : Int)) = ((r % 64 : Nat) : Int) := (Int.ofNat_tmod r 64).symm
theorem calls_l1 {l : List volumegrouplaw20_Call} (hl : l.length ≤ 30) : ∀ (N i : Nat) (s : ArrS) (g : LogS) (b : List UInt64), l.length - i < N → i ≤ l.length → CInv i s g b →
    ∃ b' g' s', CInv l.length s' g' b' ∧ volumegrouplaw20_RegionlogCalls_l1 l N s g b i = some (.inl (b', g', s'))
  | 0, _, _, _, _, h, _, _ => absurd h (by omega)
  | N + 1, i, s, g, b, h, hi, hc => by
    show ∃ b' g' s', _ ∧ volumegrouplaw20_RegionlogCalls_l1_b _ _ _ _ _ _ = _
    unfold volumegrouplaw20_RegionlogCalls_l1_b
    by_cases hlt : i < l.length
    · have hrec : ∀ s g b, CInv (i + 1) s g b → ∃ b' g' s', CInv l.length s' g' b' ∧ volumegrouplaw20_RegionlogCalls_l1 l N s g b (i + 1) = some (.inl (b', g', s')) := fun s g b h1 => calls_l1 hl N (i + 1) s g b (by omega) (by omega) h1
      generalize hS : l.getD i (⟨0, 0, 0⟩ : volumegrouplaw20_Call) = S
      rw [if_pos (by omega)]
      have hr : ∃ r : Int, (if andI S.Kind 4 = 0 then some (andI S.Region 127) else some S.Region : Option Int) = some r := by
        by_cases h4 : andI S.Kind 4 = 0
        · exact ⟨_, by rw [if_pos h4]⟩
        · exact ⟨_, by rw [if_neg h4]⟩
      obtain ⟨r, hr⟩ := hr
      rw [hr]; simp only [Option.bind_some, lt]
      -- what remains behind the call
      have htail : ∀ (s : ArrS) (g : LogS) (b : List UInt64) (w : Nat), CInv (i + 1) s g b → (w = 0 ↔ 0 ≤ r ∧ r < 100) → ∃ b' g' s', CInv l.length s' g' b' ∧
          (Option.bind (regionlog_Log_Dirty g s) fun r76 => Option.bind (volumegroupref20_Dirty b (100 : Int)) fun r80 => Option.bind (volumegroupref20_Same r76 r80) fun r84 => if (¬ r84 = true) then some (.inr false) else
            Option.bind (regionlog_Log_IsDirty g r s) fun r86 =>
            grd (decide ((((w : Nat) : Int) = (0 : Int)) → 0 ≤ (IntKind.i64.wrap (r.tdiv (64 : Int))) ∧ (IntKind.i64.wrap (r.tdiv (64 : Int))) < (b.length : Int))) <|
            grd (decide ((((w : Nat) : Int) = (0 : Int)) → 0 ≤ (r.tmod (64 : Int)))) <|
            if (¬ (r86 = true ↔ ((((w : Nat) : Int) = (0 : Int)) ∧ (((shr_u64 ((b.getD (((IntKind.i64.wrap (r.tdiv (64 : Int)))).toNat) 0)) (((r.tmod (64 : Int))).toNat)) &&& (1 : UInt64)) = (1 : UInt64))))) then some (.inr false)
            else volumegrouplaw20_RegionlogCalls_l1 l N s g b (i + 1)) = some (.inl (b', g', s')) := fun s g b w h1 hw => by
        have hlen : g.bits.length = 2 := h1.lok.len
        have hbl : b.length = 2 := by rw [← h1.bits]; exact hlen
        have e100 : (100 : Int) = ((100 : Nat) : Int) := rfl
        rw [dirty_eq h1.lok.reg (by omega) (by decide), e100, refDirty_eq (by omega) (by decide), h1.bits]; simp only [Option.bind_some]
        rw [same20 (Nat.le_trans dirtyL_le (by decide))]; simp only [Option.bind_some]
        rw [if_neg (by simp), isDirty_eq h1.lok.reg (by omega) (by decide)]; simp only [Option.bind_some]
        obtain ⟨b', g', s', h2, h3⟩ := hrec s g b h1
        refine ⟨b', g', s', h2, ?_⟩
        by_cases hw0 : w = 0
        · have hin := hw.1 hw0
          obtain ⟨k, rfl⟩ := Int.eq_ofNat_of_zero_le hin.1
          have hk : k < 100 := by omega
          rw [tdiv64 (by omega), tmod64, grd_t (decide_eq_true (fun _ => ⟨by omega, by omega⟩)), grd_t (decide_eq_true (fun _ => by omega)), Int.toNat_natCast, Int.toNat_natCast]
          rw [if_neg (fun x => x ⟨fun y => ⟨by omega, (bit_iff (Nat.mod_lt _ (by decide))).2 (by
              rw [decide_eq_true (⟨by omega, by omega⟩ : 0 ≤ (k : Int) ∧ (k : Int) < ((100 : Nat) : Int)), Bool.true_and, h1.bits] at y; exact y)⟩,
            fun y => by
              rw [decide_eq_true (⟨by omega, by omega⟩ : 0 ≤ (k : Int) ∧ (k : Int) < ((100 : Nat) : Int)), Bool.true_and, h1.bits]; exact (bit_iff (Nat.mod_lt _ (by decide))).1 y.2⟩)]
          exact h3
        · have hout : ¬ (0 ≤ r ∧ r < 100) := fun x => hw0 (hw.2 x)
          rw [grd_t (decide_eq_true (fun x => absurd x (by omega))), grd_t (decide_eq_true (fun x => absurd x (by omega)))]
          rw [if_neg (fun x => x ⟨fun y => by
              rw [decide_eq_false (show ¬ (0 ≤ r ∧ r < ((100 : Nat) : Int)) from hout), Bool.false_and] at y; exact absurd y (by decide),
            fun y => absurd y.1 (by omega)⟩)]
          exact h3
      by_cases hin : 0 ≤ r ∧ r < 100
      · obtain ⟨k, rfl⟩ := Int.eq_ofNat_of_zero_le hin.1
        have hk : k < 100 := by omega
        have hbl : b.length = 2 := by rw [← hc.bits]; exact hc.lok.len
        rw [if_neg (by omega)]; simp only [Option.bind_some]
        by_cases hM : andI S.Kind 1 = 0
        · obtain ⟨s1, g1, h1, h2⟩ := mark_step hc (by omega) hk
          rw [if_pos hM, h1]; simp only [Option.bind_some]
          rw [if_neg (by decide), if_pos (by decide), tdiv64 (by omega), tmod64, grd_t (decide_eq_true ⟨by omega, by omega⟩), grd_t (decide_eq_true (by omega)), grd_t (decide_eq_true ⟨by omega, by omega⟩), seqO_inl]
          have := htail s1 g1 (setR b k true) 0 h2 ⟨fun _ => ⟨by omega, by omega⟩, fun _ => rfl⟩
          rw [tdiv64 (by omega), tmod64] at this
          exact this
        · obtain ⟨s1, g1, h1, h2⟩ := clear_step hc (by omega) hk
          rw [if_neg hM, h1]; simp only [Option.bind_some]
          rw [if_neg (by decide), if_pos (by decide), tdiv64 (by omega), tmod64, grd_t (decide_eq_true ⟨by omega, by omega⟩), grd_t (decide_eq_true (by omega)), grd_t (decide_eq_true ⟨by omega, by omega⟩), seqO_inl]
          have := htail s1 g1 (setR b k false) 0 h2 ⟨fun _ => ⟨by omega, by omega⟩, fun _ => rfl⟩
          rw [tdiv64 (by omega), tmod64] at this
          exact this
      · rw [if_pos (by omega)]; simp only [Option.bind_some]
        have hc' : CInv (i + 1) s g b := { hc with ok := hc.ok.mono (by omega) }
        have ht := htail s g b 1 hc' ⟨fun x => absurd x (by decide), fun x => absurd x hin⟩
        by_cases hM : andI S.Kind 1 = 0
        · rw [if_pos hM, mark_bad hc.lok (by simpa using hin)]; simp only [Option.bind_some]
          rw [if_neg (by decide), if_neg (by decide), seqO_inl]
          exact ht
        · rw [if_neg hM, clear_bad hc.lok (by simpa using hin)]; simp only [Option.bind_some]
          rw [if_neg (by decide), if_neg (by decide), seqO_inl]
          exact ht
    · rw [if_neg (by omega)]
      have : i = l.length := by omega
      subst this
      exact ⟨_, _, _, hc, rfl⟩
theorem regionlogCalls (l : List volumegrouplaw20_Call) : volumegrouplaw20_RegionlogCalls l = some true := by
  unfold volumegrouplaw20_RegionlogCalls
  simp only [awake20, Option.bind_some]
  by_cases hl : l.length ≤ 30
  · rw [if_neg (by omega)]
    have hsz : InSz nsL (mkS [List.replicate 4 0]) := inSz_mkS (ims := [List.replicate 4 0])
    rw [loaded_eq (by simp) (by intro im h; simp only [List.mem_cons, List.not_mem_nil, or_false] at h; subst h; simp)]; simp only [Option.bind_some, Option.elim_some]
    rw [spans_eq (by decide) (fun i hi => by
      have : i = 0 := by simp at hi; omega
      subst this; rw [hsz.size 0 (by decide)]; decide)]; simp only [Option.bind_some]
    have h0 : ArrOk nsL 0 (mkS [List.replicate 4 0]) := ⟨hsz, Nat.le_refl _, coh_mkS, rfl⟩
    have hx : (spansA (mkS [List.replicate 4 0])).getD 0 dv0 = xL 0 4 := by
      rw [spansA_getD (by simp), hsz.size 0 (by decide)]; rfl
    rw [if_neg (by simp [spansA_length]), hx]
    obtain ⟨t, h1, h2⟩ := format_eq (ns := nsL) (d := 0) (m := 4) (by decide) rfl (by decide) h0 rfl (good_mkS.miss 0) rfl (R := 100) (by decide) (by decide) (by decide)
    have e100 : (100 : Int) = ((100 : Nat) : Int) := rfl
    rw [e100, h1]; simp only [Option.bind_some]
    have hmt : miss t 0 = false := by rw [h2.miss]; exact good_mkS.miss 0
    rw [if_neg (by decide), open_eq (ns := nsL) (d := 0) (m := 4) (R := 100) (by decide) rfl (by decide) h2.ok h2.dn hmt (by decide) (by decide), if_pos (by rw [h2.now 0 (by decide)]; rfl)]
    simp only [Option.bind_some]
    rw [if_neg (by decide)]; simp only [Option.elim_some]
    have hc : CInv 0 t (openL (xL 0 4) 100 (now t 0)) (List.replicate 2 0) := by
      have hw : ∀ w, w < 2 → now t 0 (1 + w) = 0 := fun w hw => by rw [h2.now _ (by omega), if_neg (by omega), if_pos (by rw [nW100]; omega)]
      refine ⟨h2.ok.mono (by decide), h2.dn, h2.fuse, hmt, ⟨rfl, rfl, by simp [openL], List.nodup_nil⟩, ?_, fun w hw2 => ?_, by rw [h2.now 0 (by decide)]; rfl, fun r hr => by simp [openL, lookM] at hr⟩
      · apply List.ext_getElem (by simp [openL, nW100])
        intro i h3 h4
        have : i < 2 := by simpa using h4
        simp only [openL, List.getElem_map, List.getElem_range, List.getElem_replicate]
        exact hw i this
      · rw [hw w hw2]
        have : w = 0 ∨ w = 1 := by omega
        rcases this with rfl | rfl <;> rfl
    have hF := fuel_big
    obtain ⟨b', g', s', h3, h4⟩ := calls_l1 hl FUEL 0 t _ _ (by omega) (by omega) hc
    rw [h4, seqO_inl, open_eq (ns := nsL) (d := 0) (m := 4) (R := 100) (by decide) rfl (by decide) h3.ok h3.dn h3.miss (by decide) (by decide), if_pos h3.head]
    simp only [Option.bind_some]
    rw [if_pos trivial]; simp only [Option.elim_some]
    rw [dirty_eq (R := 100) rfl (by simp [openL, nW100]) (by decide), dirty_eq h3.lok.reg (by rw [h3.lok.len]; decide) (by decide)]
    simp only [Option.bind_some]
    have hbl : b'.length = 2 := by rw [← h3.bits]; exact h3.lok.len
    have e : dirtyL (openL (xL 0 4) 100 (now s' 0)).bits 100 = dirtyL g'.bits 100 := by
      congr 1
      rw [h3.bits]
      apply List.ext_getElem (by simp [openL, nW100, hbl])
      intro i h5 h6
      have hi : i < 2 := by omega
      have := h3.now i hi
      simp only [openL, List.getElem_map, List.getElem_range]
      rw [this]; simp [List.getD, h6]
    rw [e, same20 (Nat.le_trans dirtyL_le (by decide))]; simp only [Option.bind_some]
    rw [if_pos trivial]
  · rw [if_pos (by omega)]
end Go.Proofs
