/- Logs of regions: Mark and Clear. -/
import Derived.Test.YteboelcolfoddaaPLog
namespace Go.Proofs
open Go.VG
structure LogOk (d m R : Nat) (l : LogS) : Prop where
  x : l.x = xL d m
  reg : l.regions = (R : Int)
  len : l.bits.length = nW R
  nd : (l.durable.map (·.1)).Nodup
section
variable {ns : List Nat} {K d m R : Nat} {s : ArrS} {l : LogS}
theorem nW_lt {r : Nat} (hr : r < R) : r / 64 < nW R := by unfold nW; omega
theorem mark_bad {r : Int} (hl : LogOk d m R l) (h : ¬ (0 ≤ r ∧ r < (R : Int))) : regionlog_Log_Mark l r s = some (1, l, s) := by
  unfold regionlog_Log_Mark
  rw [hl.reg, if_pos (by omega)]
theorem clear_bad {r : Int} (hl : LogOk d m R l) (h : ¬ (0 ≤ r ∧ r < (R : Int))) : regionlog_Log_Clear l r s = some (1, l, s) := by
  unfold regionlog_Log_Clear
  rw [hl.reg, if_pos (by omega)]
theorem mark_dur {r : Nat} (hl : LogOk d m R l) (h : r < R) (hdur : (lookM l.durable (r : Int)).isSome = true) : regionlog_Log_Mark l (r : Int) s = some (0, l, s) := by
  unfold regionlog_Log_Mark
  rw [hl.reg, if_neg (by omega), if_pos hdur]
theorem set_eq (hd : d < ns.length) (hm : ns.getD d 0 = m) (hb : m ≤ 1000000) (hl : LogOk d m R l) (h : ArrOk ns K s) (hK : K ≤ 1000000) {r : Nat} (hr : r < R) (hR : R ≤ 1048576) (hW : 1 + nW R ≤ m) {is keep : Bool} : regionlog_Log_set l (r : Int) is keep s =
    some (if wrR s d ((1 + r / 64 : Nat) : Int) = 0 ∨ keep = true then (wrR s d ((1 + r / 64 : Nat) : Int), { l with bits := setR l.bits r is }, wrS s d ((1 + r / 64 : Nat) : Int) ((setR l.bits r is).getD (r / 64) 0)) else (wrR s d ((1 + r / 64 : Nat) : Int), l, wrS s d ((1 + r / 64 : Nat) : Int) ((setR l.bits r is).getD (r / 64) 0))) := by
  unfold regionlog_Log_set
  have hw := nW_lt hr
  have hn : nW R ≤ 16384 := by unfold nW; omega
  have hlen := hl.len
  rw [packSetBit (by omega) (by omega) (by omega)]; simp only [Option.bind_some]
  have e : (1 : Int) + ((r / 64 : Nat) : Int) = ((1 + r / 64 : Nat) : Int) := by omega
  rw [if_neg (by decide), div64 (by omega), e, grd_t (inI64_of (by omega)), grd_t (decide_eq_true ⟨by omega, by rw [setR_length]; omega⟩), Int.toNat_natCast, hl.x, log_wr hd hm hb h hK (by omega)]
  simp only [Option.bind_some]
  by_cases hc : wrR s d ((1 + r / 64 : Nat) : Int) = 0 ∨ keep = true
  · rw [if_pos hc, if_pos hc]
  · rw [if_neg hc, if_neg hc]
theorem mark_out (hd : d < ns.length) (hm : ns.getD d 0 = m) (hb : m ≤ 1000000) (hl : LogOk d m R l) (h : ArrOk ns K s) (hdn : s.down = false) (hms : miss s d = false) (hK : K < 1000000) {r : Nat} (hr : r < R) (hR : R ≤ 1048576) (hW : 1 + nW R ≤ m) (hdur : (lookM l.durable (r : Int)).isSome = false) :
    (s.fuse ≠ 1 ∧ ∃ u t, regionlog_Log_Mark l (r : Int) s = some (0, { l with bits := setR l.bits r true, durable := setM l.durable (r : Int) () }, t) ∧ Wrote ns K s d (1 + r / 64) ((setR l.bits r true).getD (r / 64) 0) u ∧ Flushed1 ns (K + 1) u d t) ∨
    (s.fuse = 1 ∧ ∃ t, regionlog_Log_Mark l (r : Int) s = some (5, { l with bits := setR l.bits r true }, t) ∧ Fell ns K s t) := by
  have hw := nW_lt hr
  unfold regionlog_Log_Mark
  rw [if_neg (by rw [hl.reg]; omega), if_neg (by rw [hdur]; decide), set_eq hd hm hb hl h (by omega) hr hR hW, if_pos (.inr rfl)]
  simp only [Option.bind_some]
  rcases h.wrA (d := d) (a := 1 + r / 64) (v := (setR l.bits r true).getD (r / 64) 0) (by omega) hdn hd (by rw [hm]; omega) hms with ⟨h1, h2, h3⟩ | ⟨h1, h2, h3⟩
  · obtain ⟨k1, k2⟩ := h3.ok.flA (d := d) h3.dn hd (by rw [h3.miss]; exact hms)
    refine .inl ⟨h1, _, _, ?_, h3, k2⟩
    rw [h2, if_neg (by decide), hl.x, log_fl hd hm hb h3.ok (by omega)]; simp only [Option.bind_some]
    rw [k1, if_neg (by decide)]
  · refine .inr ⟨h1, _, ?_, h3⟩
    rw [h2, if_pos (by decide)]
theorem clear_out (hd : d < ns.length) (hm : ns.getD d 0 = m) (hb : m ≤ 1000000) (hl : LogOk d m R l) (h : ArrOk ns K s) (hdn : s.down = false) (hms : miss s d = false) (hK : K < 1000000) {r : Nat} (hr : r < R) (hR : R ≤ 1048576) (hW : 1 + nW R ≤ m) :
    (s.fuse ≠ 1 ∧ ∃ t, regionlog_Log_Clear l (r : Int) s = some (0, { l with bits := setR l.bits r false, durable := delM l.durable (r : Int) }, t) ∧ Wrote ns K s d (1 + r / 64) ((setR l.bits r false).getD (r / 64) 0) t) ∨
    (s.fuse = 1 ∧ ∃ t, regionlog_Log_Clear l (r : Int) s = some (5, { l with durable := delM l.durable (r : Int) }, t) ∧ Fell ns K s t) := by
  have hw := nW_lt hr
  unfold regionlog_Log_Clear
  have hl' : LogOk d m R { l with durable := delM l.durable (r : Int) } := ⟨hl.x, hl.reg, hl.len, nodup_delM _ _ hl.nd⟩
  rw [if_neg (by rw [hl.reg]; omega), set_eq hd hm hb hl' h (by omega) hr hR hW]
  rcases h.wrA (d := d) (a := 1 + r / 64) (v := (setR l.bits r false).getD (r / 64) 0) (by omega) hdn hd (by rw [hm]; omega) hms with ⟨h1, h2, h3⟩ | ⟨h1, h2, h3⟩
  · refine .inl ⟨h1, _, ?_, h3⟩
    rw [h2, if_pos (.inl rfl)]; rfl
  · refine .inr ⟨h1, _, ?_, h3⟩
    rw [h2, if_neg (by decide)]; rfl
end
end Go.Proofs
