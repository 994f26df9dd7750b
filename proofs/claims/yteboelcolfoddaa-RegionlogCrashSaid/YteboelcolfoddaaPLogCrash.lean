/- RegionlogCrash: a log whose array loses its power again and again. -/
import Derived.Test.YteboelcolfoddaaPLogOps
import Derived.Test.YteboelcolfoddaaPSpansA
import Derived.Test.YteboelcolfoddaaPKeep
import Derived.Test.YteboelcolfoddaaLRegionlogCrash
namespace Go.Proofs
open Go.VG
theorem awake20 : volumegrouplaw20_awake = some true := by kernel_rfl
def ns6 : List Nat := [6]
theorem setB {l : List Bool} {i j : Nat} {v : Bool} (h : i < l.length) : (l.set i v).getD j false = if j = i then v else l.getD j false := by
  simp only [List.getD, List.getElem?_set]
  by_cases e : i = j
  · subst e; simp [h]
  · rw [if_neg e, if_neg (fun x => e x.symm)]
/-- What may be on the disk. -/
structure DInv (i R : Nat) (s : ArrS) (mb su : List Bool) : Prop where
  ok : ArrOk ns6 (10 + i) s
  miss : Go.Proofs.miss s 0 = false
  head : ∀ c ∈ cand s 0 0, c = headL R
  ml : mb.length = R
  sl : su.length = R
  cnd : ∀ c r, r < R → c ∈ cand s 0 (1 + r / 64) → (su.getD r false = true → tb c (r % 64) = true) ∧ (tb c (r % 64) = true → mb.getD r false = true)
structure RInv (i R : Nat) (s : ArrS) (g : LogS) (mb su : List Bool) : Prop extends DInv i R s mb su where
  dn : s.down = false
  lok : LogOk 0 6 R g
  now : ∀ w, w < nW R → Go.Proofs.now s 0 (1 + w) = g.bits.getD w 0
  dur : ∀ r : Nat, r < R → (lookM g.durable (r : Int)).isSome = true → ∀ c ∈ cand s 0 (1 + r / 64), tb c (r % 64) = true
section
variable {i R : Nat} {s : ArrS} {g : LogS} {mb su : List Bool}
theorem hW6 (hR : 1 ≤ R ∧ R ≤ 256) : 1 + nW R ≤ 6 := by unfold nW; omega
theorem RInv.bit (hR : 1 ≤ R ∧ R ≤ 256) (h : RInv i R s g mb su) {r : Nat} (hr : r < R) : (su.getD r false = true → bitR g.bits r = true) ∧ (bitR g.bits r = true → mb.getD r false = true) := by
  have hw := nW_lt hr
  have h6 := hW6 hR
  have := h.cnd (Go.Proofs.now s 0 (1 + r / 64)) r hr (h.ok.now_cand (ns := ns6) (by decide) (by show _ < 6; omega))
  rw [h.now _ hw] at this
  exact this
theorem RInv.markS (hR : 1 ≤ R ∧ R ≤ 256) (hi : i ≤ 100) (h : RInv i R s g mb su) {r : Nat} (hr : r < R) : ∃ e g' s', regionlog_Log_Mark g (r : Int) s = some (e, g', s') ∧
    (e = 0 ∧ RInv (i + 1) R s' g' (mb.set r true) (su.set r (su.getD r false || decide (e = 0))) ∨ e = 5 ∧ DInv (i + 1) R s' (mb.set r true) (su.set r (su.getD r false || decide (e = 0)))) := by
  have hw := nW_lt hr
  have h6 := hW6 hR
  have hsl : r < su.length := by rw [h.sl]; exact hr
  have hml : r < mb.length := by rw [h.ml]; exact hr
  have hgl := h.lok.len
  by_cases hdur : (lookM g.durable (r : Int)).isSome = true
  · refine ⟨0, g, s, mark_dur h.lok hr hdur, .inl ⟨rfl, ?_⟩⟩
    exact { ok := h.ok.mono (by omega), miss := h.miss, head := h.head, ml := by simpa using h.ml, sl := by simpa using h.sl, dn := h.dn, lok := h.lok, now := h.now, dur := h.dur
            cnd := fun c q hq hc => by
              rw [setB hsl, setB hml]
              by_cases e : q = r
              · subst e; rw [if_pos rfl, if_pos rfl]; exact ⟨fun _ => h.dur q hq hdur c hc, fun _ => rfl⟩
              · rw [if_neg e, if_neg e]; exact h.cnd c q hq hc }
  · rw [Bool.not_eq_true] at hdur
    rcases mark_out (ns := ns6) (d := 0) (m := 6) (by decide) rfl (by decide) h.lok h.ok h.dn h.miss (by omega) hr (by omega) h6 hdur with ⟨-, u, t, h1, h2, h3⟩ | ⟨h1, t, h2, h3⟩
    · have hcand : ∀ b, b < 6 → cand t 0 b = [Go.Proofs.now u 0 b] := fun b hb => by rw [h3.cand 0 b (by decide) hb, if_pos rfl]
      have hnow : ∀ w, w < nW R → Go.Proofs.now u 0 (1 + w) = (setR g.bits r true).getD w 0 := fun w hw2 => by
        rw [h2.now]
        by_cases e : r / 64 = w
        · subst e; rw [if_pos ⟨rfl, rfl⟩]
        · rw [if_neg (fun x => e (by have := x.2; omega)), h.now w hw2]
          unfold setR; rw [getDU_set (by omega), if_neg (fun x => e x.symm)]
      have hbit : ∀ c q, q < R → c ∈ cand t 0 (1 + q / 64) → tb c (q % 64) = if q = r then true else bitR g.bits q := fun c q hq hc => by
        have hq2 := nW_lt hq
        rw [hcand _ (by omega), hnow _ hq2] at hc
        rw [List.mem_singleton.1 hc]
        exact bitR_setR (by omega)
      refine ⟨0, _, t, h1, .inl ⟨rfl, ?_⟩⟩
      exact { ok := h3.ok.mono (by omega), miss := by rw [h3.miss, h2.miss, h.miss]
              head := fun c hc => by
                rw [hcand 0 (by decide), h2.now, if_neg (fun x => by have := x.2; omega)] at hc
                rw [List.mem_singleton.1 hc]
                exact h.head _ (h.ok.now_cand (ns := ns6) (by decide) (by decide))
              ml := by simpa using h.ml, sl := by simpa using h.sl, dn := h3.dn
              lok := ⟨h.lok.x, h.lok.reg, by rw [← h.lok.len]; exact setR_length, nodup_setM _ _ _ h.lok.nd⟩
              now := fun w hw2 => by rw [h3.now]; exact hnow w hw2
              cnd := fun c q hq hc => by
                rw [setB hsl, setB hml, hbit c q hq hc]
                by_cases e : q = r
                · subst e; rw [if_pos rfl, if_pos rfl, if_pos rfl]; exact ⟨fun _ => rfl, fun _ => rfl⟩
                · rw [if_neg e, if_neg e, if_neg e]; exact h.bit hR hq
              dur := fun q hq hd c hc => by
                rw [hbit c q hq hc]
                by_cases e : q = r
                · rw [if_pos e]
                · rw [if_neg e]
                  have hd' : (lookM (setM g.durable (r : Int) ()) (q : Int)).isSome = true := hd
                  rw [lookM_setM, if_neg (by omega)] at hd'
                  have hq2 := nW_lt hq
                  have := h.dur q hq hd' _ (h.ok.now_cand (ns := ns6) (by decide) (by show _ < 6; omega))
                  rw [h.now _ hq2] at this
                  exact this }
    · refine ⟨5, _, t, h2, .inr ⟨rfl, ?_⟩⟩
      exact { ok := h3.ok.mono (by omega), miss := by rw [h3.miss, h.miss], head := fun c hc => by rw [h3.cand] at hc; exact h.head c hc, ml := by simpa using h.ml, sl := by simpa using h.sl
              cnd := fun c q hq hc => by
                rw [h3.cand] at hc
                rw [setB hsl, setB hml]
                have := h.cnd c q hq hc
                by_cases e : q = r
                · subst e; rw [if_pos rfl, if_pos rfl]; exact ⟨fun x => this.1 (by simpa using x), fun _ => rfl⟩
                · rw [if_neg e, if_neg e]; exact this }
theorem RInv.clearS (hR : 1 ≤ R ∧ R ≤ 256) (hi : i ≤ 100) (h : RInv i R s g mb su) {r : Nat} (hr : r < R) : ∃ e g' s', regionlog_Log_Clear g (r : Int) s = some (e, g', s') ∧
    (e = 0 ∧ RInv (i + 1) R s' g' mb (su.set r false) ∨ e = 5 ∧ DInv (i + 1) R s' mb (su.set r false)) := by
  have hw := nW_lt hr
  have h6 := hW6 hR
  have hsl : r < su.length := by rw [h.sl]; exact hr
  have hgl := h.lok.len
  rcases clear_out (ns := ns6) (d := 0) (m := 6) (by decide) rfl (by decide) h.lok h.ok h.dn h.miss (by omega) hr (by omega) h6 with ⟨-, t, h1, h2⟩ | ⟨h1, t, h2, h3⟩
  · have hbit : ∀ c q, q < R → c ∈ cand t 0 (1 + q / 64) → c ∈ cand s 0 (1 + q / 64) ∨ tb c (q % 64) = if q = r then false else bitR g.bits q := fun c q hq hc => by
      rw [h2.cand] at hc
      by_cases e : r / 64 = q / 64
      · rw [if_pos ⟨rfl, by omega⟩] at hc
        rcases List.mem_append.1 hc with hc | hc
        · exact .inl hc
        · rw [List.mem_singleton.1 hc]
          refine .inr ?_
          rw [e]
          exact bitR_setR (l := g.bits) (r := r) (q := q) (is := false) (by omega)
      · rw [if_neg (fun x => e (by have := x.2; omega))] at hc
        exact .inl hc
    refine ⟨0, _, t, h1, .inl ⟨rfl, ?_⟩⟩
    exact { ok := h2.ok.mono (by omega), miss := by rw [h2.miss, h.miss]
            head := fun c hc => by rw [h2.cand, if_neg (fun x => by have := x.2; omega)] at hc; exact h.head c hc
            ml := h.ml, sl := by simpa using h.sl, dn := h2.dn
            lok := ⟨h.lok.x, h.lok.reg, by rw [← h.lok.len]; exact setR_length, nodup_delM _ _ h.lok.nd⟩
            now := fun w hw2 => by
              rw [h2.now]
              by_cases e : r / 64 = w
              · subst e; rw [if_pos ⟨rfl, rfl⟩]
              · rw [if_neg (fun x => e (by have := x.2; omega)), h.now w hw2]
                show _ = (setR g.bits r false).getD w 0
                unfold setR; rw [getDU_set (by omega), if_neg (fun x => e x.symm)]
            cnd := fun c q hq hc => by
              rw [setB hsl]
              rcases hbit c q hq hc with hc | hc
              · have := h.cnd c q hq hc
                by_cases e : q = r
                · rw [if_pos e]; exact ⟨fun x => (by cases x), this.2⟩
                · rw [if_neg e]; exact this
              · rw [hc]
                by_cases e : q = r
                · rw [if_pos e, if_pos e]; exact ⟨fun x => x, fun x => (by cases x)⟩
                · rw [if_neg e, if_neg e]; exact h.bit hR hq
            dur := fun q hq hd c hc => by
              have hd' : (lookM (delM g.durable (r : Int)) (q : Int)).isSome = true := hd
              rw [lookM_delM _ _ _ h.lok.nd] at hd'
              by_cases e : q = r
              · subst e; rw [if_pos rfl] at hd'; cases hd'
              · rw [if_neg (by omega)] at hd'
                rcases hbit c q hq hc with hc | hc
                · exact h.dur q hq hd' c hc
                · rw [hc, if_neg e]
                  have hq2 := nW_lt hq
                  have := h.dur q hq hd' _ (h.ok.now_cand (ns := ns6) (by decide) (by show _ < 6; omega))
                  rw [h.now _ hq2] at this
                  exact this }
  · refine ⟨5, _, t, h2, .inr ⟨rfl, ?_⟩⟩
    exact { ok := h3.ok.mono (by omega), miss := by rw [h3.miss, h.miss], head := fun c hc => by rw [h3.cand] at hc; exact h.head c hc, ml := h.ml, sl := by simpa using h.sl
            cnd := fun c q hq hc => by
              rw [h3.cand] at hc
              rw [setB hsl]
              have := h.cnd c q hq hc
              by_cases e : q = r
              · rw [if_pos e]; exact ⟨fun x => (by cases x), this.2⟩
              · rw [if_neg e]; exact this }
theorem RInv.syncS (hR : 1 ≤ R ∧ R ≤ 256) (hi : i ≤ 100) (h : RInv i R s g mb su) : ∃ s', regionlog_Log_Sync g s = some (0, s') ∧ RInv (i + 1) R s' g mb su := by
  have h6 := hW6 hR
  unfold regionlog_Log_Sync
  rw [h.lok.x, log_fl (ns := ns6) (d := 0) (m := 6) (by decide) rfl (by decide) h.ok (by omega)]; simp only [Option.bind_some]
  obtain ⟨k1, k2⟩ := h.ok.flA (d := 0) h.dn (by decide) h.miss
  rw [show flC s ((0 : Nat) : Int) = 0 from k1]
  have hsub : ∀ b, b < 6 → ∀ c ∈ cand (flS s ((0 : Nat) : Int)) 0 b, c ∈ cand s 0 b := fun b hb c hc => by
    rw [k2.cand 0 b (by decide) hb, if_pos rfl] at hc
    rw [List.mem_singleton.1 hc]
    exact h.ok.now_cand (ns := ns6) (by decide) hb
  refine ⟨_, rfl, ?_⟩
  exact { ok := k2.ok.mono (by omega), miss := by rw [k2.miss, h.miss], head := fun c hc => h.head c (hsub 0 (by decide) c hc), ml := h.ml, sl := h.sl, dn := k2.dn, lok := h.lok, now := fun w hw => by rw [k2.now]; exact h.now w hw
          cnd := fun c q hq hc => h.cnd c q hq (hsub _ (by have := nW_lt hq; omega) c hc), dur := fun q hq hd c hc => h.dur q hq hd c (hsub _ (by have := nW_lt hq; omega) c hc) }
theorem DInv.reopen (hR : 1 ≤ R ∧ R ≤ 256) (hi : i ≤ 100) (h : DInv i R s mb su) (ks : List Bool) : ∃ g', regionlog_Open (xL 0 6) (R : Int) (rsS s ks) = some (some g', 0) ∧ RInv i R (rsS s ks) g' mb su := by
  have h6 := hW6 hR
  have hr := h.ok.rs ks
  have hm : Go.Proofs.miss (rsS s ks) 0 = false := by rw [hr.miss, h.miss]
  have hsub : ∀ b, b < 6 → ∀ c ∈ cand (rsS s ks) 0 b, c ∈ cand s 0 b := fun b hb c hc => by
    rw [hr.cand] at hc
    rw [List.mem_singleton.1 hc]
    exact hr.now 0 b (by decide) hb
  have hh : now (rsS s ks) 0 0 = headL R := h.head _ (hr.now 0 0 (by decide) (by decide))
  refine ⟨_, by rw [open_eq (ns := ns6) (d := 0) (m := 6) (R := R) (by decide) rfl (by decide) hr.ok hr.dn hm ⟨hR.1, by omega⟩ h6, if_pos hh], ?_⟩
  exact { ok := hr.ok, miss := hm, head := fun c hc => h.head c (hsub 0 (by decide) c hc), ml := h.ml, sl := h.sl, dn := hr.dn, lok := ⟨rfl, rfl, by simp [openL], List.nodup_nil⟩
          now := fun w hw => by simp only [openL]; rw [getD_map_range hw]
          cnd := fun c q hq hc => h.cnd c q hq (hsub _ (by have := nW_lt hq; omega) c hc)
          dur := fun q hq hd => by simp [openL, lookM] at hd }
end
theorem checks {i R : Nat} {s : ArrS} {g : LogS} {mb su : List Bool} (hR : 1 ≤ R ∧ R ≤ 256) (h : RInv i R s g mb su) {n_1 : UInt8} (hn : 1 + n_1.toNat = R) {a : LogS × ArrS × List Bool × List Bool × Int} {e : Int} (ha1 : a.2.2.1 = mb) (ha2 : a.2.2.2.1 = su) :
    ∀ (N k : Nat), R - k < N → k ≤ R → volumegrouplaw20_RegionlogCrash_l4 n_1 a (s, g, e) N k = some (.inl ())
  | 0, _, h, _ => absurd h (by omega)
  | N + 1, k, hk, hkR => by
    show volumegrouplaw20_RegionlogCrash_l4_b _ _ _ _ _ = _
    unfold volumegrouplaw20_RegionlogCrash_l4_b
    rw [ha1, ha2, hn]
    by_cases hlt : k < R
    · have hb := h.bit hR hlt
      have hd : regionlog_Log_IsDirty g ((k : Nat) : Int) s = some (bitR g.bits k) := by
        rw [isDirty_eq h.lok.reg (by rw [h.lok.len]; unfold nW; omega) (by omega), decide_eq_true ⟨by omega, by omega⟩, Bool.true_and, Int.toNat_natCast]
      rw [if_pos (by omega), grd_t (decide_eq_true (by rw [h.sl]; exact hlt))]
      simp only [hd, Option.bind_some]
      have hg : ∀ {α : Type} {o : Option α}, grd (decide (bitR g.bits k = true → k < mb.length)) o = o := fun {α o} => grd_t (decide_eq_true (fun _ => by rw [h.ml]; exact hlt))
      by_cases hs : su.getD k false = true
      · rw [if_pos hs, if_neg (fun x => x (hb.1 hs)), hg, hg, if_neg (fun x => x.2 (hb.2 x.1)), grd_t (inN64_of (by omega))]
        exact checks hR h hn ha1 ha2 N (k + 1) (by omega) (by omega)
      · rw [if_neg hs, hg, hg, if_neg (fun x => x.2 (hb.2 x.1)), grd_t (inN64_of (by omega))]
        exact checks hR h hn ha1 ha2 N (k + 1) (by omega) (by omega)
    · rw [if_neg (by omega)]
theorem crash_l1 {l : List volumegrouplaw20_Call} (hl : l.length ≤ 30) {n_1 : UInt8} {R : Nat} (hn : 1 + n_1.toNat = R) (hR : 1 ≤ R ∧ R ≤ 256) {ds : List Dvc} (hds : ds.getD 0 dv0 = xL 0 6) : ∀ (N i : Nat) (s : ArrS) (g : LogS) (mb su : List Bool), l.length - i < N → i ≤ l.length → RInv i R s g mb su →
    ∃ r, volumegrouplaw20_RegionlogCrash_l1 l n_1 ds N s mb su i g = some (.inl r)
  | 0, _, _, _, _, _, h, _, _ => absurd h (by omega)
  | N + 1, i, s, g, mb, su, h, hi, hc => by
    show ∃ r, volumegrouplaw20_RegionlogCrash_l1_b _ _ _ _ _ _ _ _ _ = _
    unfold volumegrouplaw20_RegionlogCrash_l1_b
    have hF := fuel_big
    by_cases hlt : i < l.length
    · have hrec : ∀ s g mb su, RInv (i + 1) R s g mb su → ∃ r, volumegrouplaw20_RegionlogCrash_l1 l n_1 ds N s mb su (i + 1) g = some (.inl r) := fun s g mb su h1 => crash_l1 hl hn hR hds N (i + 1) s g mb su (by omega) (by omega) h1
      generalize hS : l.getD i (⟨0, 0, 0⟩ : volumegrouplaw20_Call) = S
      obtain ⟨k, hk1, hk, hlo, hhi⟩ := at_ok S.Region (n := R) (by omega) (by omega)
      simp only [lt, hn]
      rw [if_pos (by omega), grd_t (inI64_of (by omega)), hk1]
      -- behind the call
      have htail : ∀ (g' : LogS) (s' : ArrS) (mb' su' : List Bool) (e : Int), (e = 0 ∧ RInv (i + 1) R s' g' mb' su' ∨ e = 5 ∧ DInv (i + 1) R s' mb' su') → ∃ r, (
          seqO ((if ((g', s', mb', su', e) : LogS × ArrS × List Bool × List Bool × Int).2.2.2.2 = (5 : Int) then
              Option.bind (volumegroupmake_Keep S.Keep) fun r318 => grd (inLen ((g', s', mb', su', e) : LogS × ArrS × List Bool × List Bool × Int).2.1.writes) <|
              Option.bind (regionlog_Open (ds.getD 0 dv0) (((R : Nat) : Int)) (rsS ((g', s', mb', su', e) : LogS × ArrS × List Bool × List Bool × Int).2.1 r318)) fun r323 =>
              Option.elim r323.1 (some (.inr (.inr false))) fun o328 => some (.inl ((rsS ((g', s', mb', su', e) : LogS × ArrS × List Bool × List Bool × Int).2.1 r318), o328, r323.2))
            else some (.inl (((g', s', mb', su', e) : LogS × ArrS × List Bool × List Bool × Int).2.1, ((g', s', mb', su', e) : LogS × ArrS × List Bool × List Bool × Int).1, ((g', s', mb', su', e) : LogS × ArrS × List Bool × List Bool × Int).2.2.2.2)) : Option ((ArrS × LogS × Int) ⊕ ((ArrS × (List Bool) × (List Bool)) ⊕ Bool)))) fun a317 =>
          if (a317.2.2 ≠ (0 : Int)) then some (.inr false) else
            seqO (volumegrouplaw20_RegionlogCrash_l4 n_1 (g', s', mb', su', e) a317 FUEL 0) fun a333 =>
            volumegrouplaw20_RegionlogCrash_l1 l n_1 ds N a317.1 mb' su' (i + 1) a317.2.1) = some (.inl r) := fun g' s' mb' su' e hcase => by
        rcases hcase with ⟨rfl, h1⟩ | ⟨rfl, h1⟩
        · rw [if_neg (show ¬ (0 : Int) = 5 by decide), seqO_inl, if_neg (by simp), checks hR h1 hn rfl rfl FUEL 0 (by omega) (by omega), seqO_inl]
          exact hrec _ _ _ _ h1
        · obtain ⟨ks, hks⟩ := keep_ok S.Keep
          obtain ⟨g2, h2, h3⟩ := h1.reopen hR (by omega) ks
          rw [if_pos rfl, hks]; simp only [Option.bind_some]
          rw [grd_t (inLen_of (by have := h1.ok.wr; omega)), hds, h2]; simp only [Option.bind_some, Option.elim_some]
          rw [seqO_inl, if_neg (by simp), checks hR h3 hn rfl rfl FUEL 0 (by omega) (by omega), seqO_inl]
          exact hrec _ _ _ _ h3
      have hsl := hc.sl
      have hml := hc.ml
      have hks : 0 ≤ (k : Int) ∧ (k : Int) < (su.length : Int) := ⟨by omega, by omega⟩
      have hkm : 0 ≤ (k : Int) ∧ (k : Int) < (mb.length : Int) := ⟨by omega, by omega⟩
      have hup : RInv (i + 1) R s g mb su := { hc with ok := hc.ok.mono (by omega) }
      by_cases k0 : S.Kind = 0
      · obtain ⟨e, g', s', h1, h2⟩ := hc.markS hR (by omega) hk
        rw [if_pos k0, h1]; simp only [Option.bind_some]
        rw [grd_t (decide_eq_true hks), grd_t (decide_eq_true hks), grd_t (decide_eq_true hkm), Int.toNat_natCast]
        exact htail g' s' _ _ e h2
      · rw [if_neg k0]
        by_cases k1 : S.Kind = 1
        · obtain ⟨e, g', s', h1, h2⟩ := hc.clearS hR (by omega) hk
          rw [if_pos k1, h1]; simp only [Option.bind_some]
          rw [grd_t (decide_eq_true hks), Int.toNat_natCast]
          exact htail g' s' _ _ e h2
        · rw [if_neg k1]
          by_cases k2 : S.Kind = 2
          · obtain ⟨s', h1, h2⟩ := hc.syncS hR (by omega)
            rw [if_pos k2, h1]; simp only [Option.bind_some]
            exact htail g s' mb su 0 (.inl ⟨rfl, h2⟩)
          · rw [if_neg k2]
            by_cases k3 : S.Kind = 3
            · rw [if_pos k3]; simp only [Option.bind_some]
              exact htail g s mb su 5 (.inr ⟨rfl, hup.toDInv⟩)
            · rw [if_neg k3]
              by_cases k4 : S.Kind = 4
              · rw [if_pos k4, grd_t (inI64_of (by have := Int.tmod_lt_of_pos (k : Int) (show (0 : Int) < 5 by omega); have := Int.tmod_nonneg (a := (k : Int)) 5 (by omega); omega)), grd_t (inI64_of (by have := Int.tmod_lt_of_pos (k : Int) (show (0 : Int) < 5 by omega); have := Int.tmod_nonneg (a := (k : Int)) 5 (by omega); omega))]
                simp only [Option.bind_some]
                refine htail g _ mb su 0 (.inl ⟨rfl, ?_⟩)
                exact { hup with ok := hup.ok.fuse, dn := hup.dn }
              · rw [if_neg k4]; simp only [Option.bind_some]
                exact htail g s mb su 0 (.inl ⟨rfl, hup⟩)
    · rw [if_neg (by omega)]
      exact ⟨_, rfl⟩
theorem regionlogCrash (l : List volumegrouplaw20_Call) (n_1 : UInt8) : volumegrouplaw20_RegionlogCrash l n_1 = some true := by
  unfold volumegrouplaw20_RegionlogCrash
  simp only [awake20, Option.bind_some]
  by_cases hl : l.length ≤ 30
  · rw [if_neg (by omega)]
    obtain ⟨R, hn⟩ : ∃ R, 1 + n_1.toNat = R := ⟨_, rfl⟩
    have hR : 1 ≤ R ∧ R ≤ 256 := by have := n_1.toNat_lt; omega
    simp only [hn]
    have hsz : InSz ns6 (mkS [List.replicate 6 0]) := inSz_mkS (ims := [List.replicate 6 0])
    rw [grd_t (inN64_of (by omega)), loaded_eq (by simp) (by intro im h; simp only [List.mem_cons, List.not_mem_nil, or_false] at h; subst h; simp)]; simp only [Option.bind_some, Option.elim_some]
    rw [spans_eq (by decide) (fun i hi => by
      have : i = 0 := by simp at hi; omega
      subst this; rw [hsz.size 0 (by decide)]; decide)]; simp only [Option.bind_some]
    have h0 : ArrOk ns6 0 (mkS [List.replicate 6 0]) := ⟨hsz, Nat.le_refl _, coh_mkS, rfl⟩
    have hx : (spansA (mkS [List.replicate 6 0])).getD 0 dv0 = xL 0 6 := by
      rw [spansA_getD (by simp), hsz.size 0 (by decide)]; rfl
    have h6 := hW6 hR
    rw [if_neg (by simp [spansA_length]), hx]
    obtain ⟨t, h1, h2⟩ := format_eq (ns := ns6) (d := 0) (m := 6) (by decide) rfl (by decide) h0 rfl (good_mkS.miss 0) rfl (R := R) ⟨hR.1, by omega⟩ h6 (by decide)
    have hmt : miss t 0 = false := by rw [h2.miss]; exact good_mkS.miss 0
    rw [h1]; simp only [Option.bind_some]
    rw [if_neg (by decide), open_eq (ns := ns6) (d := 0) (m := 6) (R := R) (by decide) rfl (by decide) h2.ok h2.dn hmt ⟨hR.1, by omega⟩ h6, if_pos (by rw [h2.now 0 (by decide)]; rfl)]
    simp only [Option.bind_some]
    rw [if_neg (by decide)]; simp only [Option.elim_some]
    rw [grd_t (inLen_of (by omega)), grd_t (inLen_of (by omega))]
    have hz : ∀ w, w < nW R → now t 0 (1 + w) = 0 := fun w hw => by rw [h2.now _ (by omega), if_neg (by omega), if_pos (by omega)]
    have hc : RInv 0 R t (openL (xL 0 6) R (now t 0)) (List.replicate R false) (List.replicate R false) := by
      exact { ok := h2.ok.mono (by omega), miss := hmt, ml := by simp, sl := by simp, dn := h2.dn, lok := ⟨rfl, rfl, by simp [openL], List.nodup_nil⟩
              head := fun c hcc => by
                rw [h2.cand 0 (by decide), h2.now 0 (by decide)] at hcc
                exact List.mem_singleton.1 hcc
              now := fun w hw => by simp only [openL]; rw [getD_map_range hw]
              cnd := fun c q hq hcc => by
                have hq2 := nW_lt hq
                rw [h2.cand _ (by omega), hz _ hq2] at hcc
                rw [List.mem_singleton.1 hcc]
                have e : (List.replicate R false).getD q false = false := by simp [List.getD, hq]
                rw [e]
                refine ⟨fun x => (by cases x), fun x => ?_⟩
                unfold tb at x
                rw [show (0 : UInt64).toNat = 0 from rfl, Nat.zero_testBit] at x
                exact x
              dur := fun q hq hd => by simp [openL, lookM] at hd }
    have hF := fuel_big
    have hds : (spansA (mkS [List.replicate 6 0])).getD 0 dv0 = xL 0 6 := hx
    obtain ⟨r, h4⟩ := crash_l1 hl hn hR hds FUEL 0 t _ _ _ (by omega) (by omega) hc
    rw [h4, seqO_inl]
  · rw [if_pos (by omega)]
end Go.Proofs
