/- RegionlogForms: the words of a log, Format and Open, and their errors. -/
import Derived.Test.YteboelcolfoddaaPLog
import Derived.Test.YteboelcolfoddaaPSpansA
import Derived.Test.YteboelcolfoddaaLRegionlogForms
namespace Go.Proofs
open Go.VG
theorem awake20 : volumegrouplaw20_awake = some true := by kernel_rfl
theorem bitR_congr {a b : List UInt64} {r : Nat} (h : a.getD (r / 64) 0 = b.getD (r / 64) 0) : bitR a r = bitR b r := by unfold bitR; rw [h]
theorem dirtyL_zero {l : List UInt64} {n : Nat} (h : ∀ r, r < n → bitR l r = false) : dirtyL l n = [] := by
  unfold dirtyL
  rw [List.filter_eq_nil_iff.2 (fun r hr => by rw [h r (List.mem_range.1 hr)]; decide)]; rfl
theorem log_nil {u : ArrS} (hc : Coh u) (hl : u.drv.length = 1) (hf : flC u 0 = 0) : (flS u 0).log = [] := by
  have e : flS u ((0 : Nat) : Int) = fl1 u 0 := flS_of hf
  show (flS u ((0 : Nat) : Int)).log = []
  rw [e]
  show others 0 u.log = []
  rw [List.filter_eq_nil_iff]
  intro r hr
  have := (hc.log r hr).1
  have h0 : r.d = 0 := by omega
  simp [h0]
section
variable {im : List UInt64} {m : Nat}
theorem one_sz (hm : 1 ≤ m ∧ m ≤ 12) (him : im.length = m) : InSz [m] (mkS [im]) := by
  have := inSz_mkS (ims := [im])
  have e : lensN [im] = [m] := by simp [lensN, him]
  rwa [e] at this
theorem one_ok (hm : 1 ≤ m ∧ m ≤ 12) (him : im.length = m) : ArrOk [m] 0 (mkS [im]) := ⟨one_sz hm him, Nat.le_refl _, coh_mkS, rfl⟩
theorem one_load (hm : 1 ≤ m ∧ m ≤ 12) (him : im.length = m) : volumegroupmake_Loaded [im] = some (some (mkS [im])) := loaded_eq (by simp) (by intro x h; simp only [List.mem_cons, List.not_mem_nil, or_false] at h; subst h; omega)
theorem one_spans (hm : 1 ≤ m ∧ m ≤ 12) (him : im.length = m) : volumegroupmake_Spans (mkS [im]) = some (spansA (mkS [im])) := spans_eq (by simp) (fun i hi => by
  have : i = 0 := by simp at hi; omega
  subst this; rw [(one_sz hm him).size 0 (by simp)]; simp; omega)
theorem one_len (hm : 1 ≤ m ∧ m ≤ 12) (him : im.length = m) : (spansA (mkS [im])).length = 1 := by rw [spansA_length]; simp
theorem one_x (hm : 1 ≤ m ∧ m ≤ 12) (him : im.length = m) : (spansA (mkS [im])).getD 0 dv0 = xL 0 m := by
  rw [spansA_getD (by simp), (one_sz hm him).size 0 (by simp)]; rfl
theorem one_now (hm : 1 ≤ m ∧ m ≤ 12) (him : im.length = m) {k : Nat} : now (mkS [im]) 0 k = im.getD k 0 := by unfold now; rw [nowL_mkS]; rfl
end
theorem forms_l1 {words : List UInt64} {regions : Int} {n_2 : UInt8} (hw : 1 ≤ words.length ∧ words.length ≤ 12) : ∀ (N i : Nat), 4 - i < N → i ≤ 4 → volumegrouplaw20_RegionlogForms_l1 words regions n_2 N i = some (.inl ())
  | 0, _, h, _ => absurd h (by omega)
  | N + 1, i, h, hi => by
    show volumegrouplaw20_RegionlogForms_l1_b _ _ _ _ _ = _
    unfold volumegrouplaw20_RegionlogForms_l1_b
    simp only [lt]
    generalize hl4 : ([regions, (((n_2.toNat : Nat) : Int) * (3 : Int)), ((64 : Int) * (((words.length : Nat) : Int) - (1 : Int))), (((64 : Int) * (((words.length : Nat) : Int) - (1 : Int))) + (1 : Int))]) = l4
    have hlen : l4.length = 4 := by rw [← hl4]; rfl
    rw [hlen]
    by_cases hlt : i < 4
    · have hrec := forms_l1 (regions := regions) (n_2 := n_2) hw N (i + 1) (by omega) (by omega)
      rw [if_pos (by omega)]
      generalize l4.getD i 0 = r
      rw [refWordsI]; simp only [Option.bind_some]
      have hgi : ∀ {α : Type} {o : Option α}, grd (inN64 (i + 1)) o = o := fun {α o} => grd_t (inN64_of (by omega))
      have hap : inLen (0 + words.length) = true := inLen_of (by omega)
      have hx0 : regionlog_Words r = some (if r < 1 ∨ 1048576 < r then 0 else 1 + (r + 63) / 64) := wordsI
      by_cases hA : r < 1 ∨ 1048576 < r
      · simp only [if_pos hA] at hx0 ⊢
        simp only [if_true, Option.bind_some]
        rw [grd_t hap, if_neg (by omega)]; simp only [Option.bind_some, List.nil_append]
        have hno := open_no (m := words.length) (d := 0) (s := mkS [words]) (ns := [words.length]) (by simp) rfl (by omega) (r := r) (hA.elim .inl (fun x => .inr (.inl x)))
        have hfo := format_no (m := words.length) (d := 0) (s := mkS [words]) (ns := [words.length]) (by simp) rfl (by omega) (r := r) (hA.elim .inl (fun x => .inr (.inl x)))
        rw [if_pos hA] at hno hfo
        rw [one_load hw rfl]; simp only [Option.bind_some, Option.elim_some]
        rw [hx0]; simp only [Option.bind_some]
        rw [if_neg (by simp), one_spans hw rfl]; simp only [Option.bind_some]
        rw [one_len hw rfl, if_neg (by decide), one_x hw rfl, hno]; simp only [Option.bind_some]
        rw [if_neg (by decide), if_neg (by decide)]; simp only [Option.elim_none]
        rw [if_neg (by decide), if_neg (by decide), hfo]; simp only [Option.bind_some]
        rw [if_neg (by decide), if_neg (show ¬ (((mkS [words]).log.length : Nat) : Int) ≠ 0 by simp [mkS]), hno]; simp only [Option.bind_some]
        rw [if_neg (by decide), hgi, hrec]
      · simp only [if_neg hA] at hx0 ⊢
        obtain ⟨R, rfl⟩ := Int.eq_ofNat_of_zero_le (show 0 ≤ r by omega)
        have hR : 1 ≤ R ∧ R ≤ 1048576 := ⟨by omega, by omega⟩
        have hwN : (1 : Int) + ((R : Int) + 63) / 64 = ((1 + nW R : Nat) : Int) := by unfold nW; omega
        rw [hwN] at hx0 ⊢
        rw [if_neg (by omega)]
        -- the image
        have himg : ∃ im : List UInt64, im.length = words.length ∧ ((if ((((i % 2 : Nat) : Int) = (0 : Int)) ∧ ((0 : Int) < ((1 + nW R : Nat) : Int))) then
            Option.bind (volumegroupref20_Head (R : Int)) fun r39 => grd (decide (0 < ([] ++ words).length)) <| some ((([] ++ words).set 0 r39)) else some ([] ++ words) : Option (List UInt64)) = some im) := by
          by_cases h2 : (((i % 2 : Nat) : Int) = (0 : Int)) ∧ ((0 : Int) < ((1 + nW R : Nat) : Int))
          · rw [if_pos h2]
            refine ⟨words.set 0 (headL R), by simp, ?_⟩
            show (grd _ _) = _
            rw [grd_t (decide_eq_true (by simp; omega))]; rfl
          · rw [if_neg h2]; exact ⟨words, rfl, rfl⟩
        obtain ⟨im, hil, him⟩ := himg
        have hm : 1 ≤ words.length ∧ words.length ≤ 12 := hw
        by_cases hB : words.length < 1 + nW R
        · rw [if_pos (by omega)]; simp only [Option.bind_some]
          rw [grd_t hap, him]; simp only [Option.bind_some]
          have hno := open_no (m := words.length) (d := 0) (s := mkS [im]) (ns := [words.length]) (by simp) rfl (by omega) (r := (R : Int)) (.inr (.inr (by rw [hwN]; omega)))
          have hfo := format_no (m := words.length) (d := 0) (s := mkS [im]) (ns := [words.length]) (by simp) rfl (by omega) (r := (R : Int)) (.inr (.inr (by rw [hwN]; omega)))
          rw [if_neg hA] at hno hfo
          rw [one_load hm hil]; simp only [Option.bind_some, Option.elim_some]
          rw [hx0]; simp only [Option.bind_some]
          rw [if_neg (by simp), one_spans hm hil]; simp only [Option.bind_some]
          rw [one_len hm hil, if_neg (by decide), one_x hm hil, hno]; simp only [Option.bind_some]
          rw [if_neg (by decide), if_neg (by decide)]; simp only [Option.elim_none]
          rw [if_neg (by decide), if_neg (by decide), hfo]; simp only [Option.bind_some]
          rw [if_neg (by decide), if_neg (show ¬ (((mkS [im]).log.length : Nat) : Int) ≠ 0 by simp [mkS]), hno]; simp only [Option.bind_some]
          rw [if_neg (by decide), hgi, hrec]
        · rw [if_neg (by omega)]; simp only [Option.bind_some]
          rw [grd_t hap, him]; simp only [Option.bind_some]
          have hok := one_ok hm hil
          have hms : miss (mkS [im]) 0 = false := good_mkS.miss 0
          obtain ⟨t, hf1, hf2⟩ := format_eq (ns := [words.length]) (d := 0) (m := words.length) (by simp) rfl (by omega) hok rfl hms rfl hR (by omega) (by omega)
          have hop := open_eq (ns := [words.length]) (d := 0) (m := words.length) (by simp) rfl (by omega) hok rfl hms hR (by omega)
          have hmt : miss t 0 = false := by rw [hf2.miss]; exact hms
          have hop2 := open_eq (ns := [words.length]) (d := 0) (m := words.length) (by simp) rfl (by omega) hf2.ok hf2.dn hmt hR (by omega)
          rw [if_pos (by rw [hf2.now 0 (by omega), if_pos rfl])] at hop2
          have hlog : t.log.length = 0 := by
            obtain ⟨u, hu1, hu2, hu3, hu4⟩ := hf2.last
            rw [hu4]
            have := log_nil hu1 hu2 hu3
            have e : flS u ((0 : Nat) : Int) = flS u 0 := rfl
            rw [e, this]; rfl
          have hdz : regionlog_Log_Dirty (openL (xL 0 words.length) R (now t 0)) t = some [] := by
            rw [dirty_eq (R := R) rfl (by simp [openL, nW]; omega) hR.2, dirtyL_zero (fun q hq => by
              have hq2 : q / 64 < nW R := by unfold nW; omega
              unfold bitR openL
              simp only
              rw [getD_map_range hq2, hf2.now _ (by omega), if_neg (by omega), if_pos (by omega)]
              unfold tb
              rw [show (0 : UInt64).toNat = 0 from rfl, Nat.zero_testBit])]
          have htail : (Option.bind (regionlog_Format (xL 0 words.length) (R : Int) (mkS [im])) fun r78 => if (r78.1 ≠ ((0 : Nat) : Int)) then some (.inr false) else if (((r78.2.log.length : Nat) : Int) ≠ (0 : Int)) then some (.inr false) else
              Option.bind (regionlog_Open (xL 0 words.length) (R : Int) r78.2) fun r81 => if (((0 : Nat) : Int) = (0 : Int)) then (if (r81.2 ≠ (0 : Int)) then some (.inr false) else Option.elim r81.1 (some (.inr false)) fun o90 =>
                Option.bind (regionlog_Log_Dirty o90 r78.2) fun r91 => if (((r91.length : Nat) : Int) ≠ (0 : Int)) then some (.inr false) else grd (inN64 (i + 1)) <| volumegrouplaw20_RegionlogForms_l1 words regions n_2 N (i + 1)) else grd (inN64 (i + 1)) <| volumegrouplaw20_RegionlogForms_l1 words regions n_2 N (i + 1)) = some (.inl ()) := by
            rw [hf1]; simp only [Option.bind_some]
            rw [if_neg (by decide), hlog, if_neg (by decide), hop2]; simp only [Option.bind_some]
            rw [if_pos (by decide), if_neg (by decide)]; simp only [Option.elim_some]
            rw [hdz]; simp only [Option.bind_some]
            rw [if_neg (by decide), hgi, hrec]
          rw [one_load hm hil]; simp only [Option.bind_some, Option.elim_some]
          rw [hx0]; simp only [Option.bind_some]
          rw [if_neg (by simp), one_spans hm hil]; simp only [Option.bind_some]
          rw [one_len hm hil, if_neg (by decide), one_x hm hil, hop]; simp only [Option.bind_some]
          rw [if_pos (by decide), grd_t (decide_eq_true (by omega)), show volumegroupref20_Head (R : Int) = some (headL R) from rfl]; simp only [Option.bind_some]
          have hn0 : now (mkS [im]) 0 0 = im.getD 0 0 := one_now hm hil
          rw [hn0]
          by_cases hh : im.getD 0 0 = headL R
          · rw [if_pos hh, if_neg (fun x => x hh)]; simp only [Option.bind_some]
            rw [if_neg (by decide)]; simp only [Option.elim_some]
            have hbits : ∀ q, q < R → bitR (openL (xL 0 words.length) R (now (mkS [im]) 0)).bits q = bitR (im.drop 1) q := fun q hq => by
              have hq2 : q / 64 < nW R := by unfold nW; omega
              apply bitR_congr
              unfold openL
              simp only
              rw [getD_map_range hq2, one_now hm hil]
              simp only [List.getD, List.getElem?_drop]
            rw [if_neg (by decide), if_pos (by decide), grd_t (decide_eq_true ⟨by omega, Nat.le_refl _⟩), List.take_length, dirty_eq (R := R) rfl (by simp [openL, nW]; omega) hR.2, refDirty_eq (by rw [List.length_drop]; unfold nW at hB; omega) hR.2]
            simp only [Option.bind_some]
            rw [dirtyL_congr hbits, same20 (Nat.le_trans dirtyL_le (by omega))]; simp only [Option.bind_some]
            rw [if_neg (by simp), isDirty_eq (R := R) rfl (by simp [openL, nW]; omega) hR.2, decide_eq_false (by omega)]; simp only [Option.bind_some]
            rw [if_neg (by simp), isDirty_eq (R := R) rfl (by simp [openL, nW]; omega) hR.2, decide_eq_false (by omega)]; simp only [Option.bind_some]
            rw [if_neg (by simp)]
            exact htail
          · rw [if_neg hh, if_pos hh]; simp only [Option.bind_some]
            rw [if_neg (by decide)]; simp only [Option.elim_none]
            rw [if_neg (by decide), if_neg (by decide)]
            exact htail
    · rw [if_neg (by omega)]
theorem regionlogForms (words : List UInt64) (regions : Int) (n_2 : UInt8) : volumegrouplaw20_RegionlogForms words regions n_2 = some true := by
  unfold volumegrouplaw20_RegionlogForms
  simp only [awake20, Option.bind_some]
  by_cases hw : 1 ≤ words.length ∧ words.length ≤ 12
  · have hF := fuel_big
    have := n_2.toNat_lt
    rw [if_neg (by omega), grd_t (inI64_of (by omega)), forms_l1 hw FUEL 0 (by omega) (by omega), seqO_inl]
  · rw [if_pos (by omega)]
end Go.Proofs
