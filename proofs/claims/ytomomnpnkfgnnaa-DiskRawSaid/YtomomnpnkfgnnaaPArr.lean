/- Arrays: what is on the disks, what would be there behind a power failure. -/
import Derived.Test.YtomomnpnkfgnnaaPGoodL
namespace Go.Proofs
open Go.VG
def durL (s : ArrS) (d : Nat) : List UInt64 := (s.drv.getD d d0).dur
/-- The values of the writes to a sector that are not flushed, in their order. -/
def pendR (log : List Rec) (d a : Nat) : List UInt64 := (log.filter fun r => decide (r.d = d ∧ r.a = a)).map Rec.v
abbrev pend (s : ArrS) (d a : Nat) : List UInt64 := pendR s.log d a
def now (s : ArrS) (d a : Nat) : UInt64 := (nowL s d).getD a 0
def dur (s : ArrS) (d a : Nat) : UInt64 := (durL s d).getD a 0
/-- The values that a sector may have behind a power failure. -/
abbrev cand (s : ArrS) (d a : Nat) : List UInt64 := dur s d a :: pend s d a
theorem pendR_nil {d a : Nat} : pendR [] d a = [] := rfl
theorem pendR_append {l l' : List Rec} {d a : Nat} : pendR (l ++ l') d a = pendR l d a ++ pendR l' d a := by simp [pendR]
theorem pendR_one {r : Rec} {d a : Nat} : pendR [r] d a = if r.d = d ∧ r.a = a then [r.v] else [] := by
  by_cases h : r.d = d ∧ r.a = a
  · simp [pendR, h]
  · simp [pendR, h]
theorem pendR_cons {r : Rec} {l : List Rec} {d a : Nat} : pendR (r :: l) d a = if r.d = d ∧ r.a = a then r.v :: pendR l d a else pendR l d a := by
  rw [show r :: l = [r] ++ l from rfl, pendR_append, pendR_one]; split <;> rfl
theorem pendR_others {l : List Rec} {d e a : Nat} : pendR (others e l) d a = if d = e then [] else pendR l d a := by
  unfold pendR others
  rw [List.filter_filter]
  by_cases h : d = e
  · subst h
    rw [if_pos rfl, List.filter_eq_nil_iff.2]; · rfl
    intro r _ hr; simp at hr; exact hr.2 hr.1.1
  · rw [if_neg h]
    congr 1; apply List.filter_congr; intro r _
    by_cases h2 : r.d = d ∧ r.a = a
    · simp [h2, h]
    · simp [h2]
/-- The last of some values, d if there is none. -/
def lastD : UInt64 → List UInt64 → UInt64
  | d, [] => d
  | _, x :: l => lastD x l
theorem lastD_snoc {v : UInt64} : ∀ {l : List UInt64} {d : UInt64}, lastD d (l ++ [v]) = v
  | [], _ => rfl
  | x :: l, _ => lastD_snoc (l := l) (d := x)
theorem lastD_mem : ∀ {l : List UInt64} {d : UInt64}, lastD d l ∈ d :: l
  | [], _ => List.mem_cons_self
  | x :: l, _ => List.mem_cons_of_mem _ (lastD_mem (l := l) (d := x))
/-- What holds of every array that came out of the loading of disks. -/
structure Coh (s : ArrS) : Prop where
  len : ∀ d, (durL s d).length = (nowL s d).length
  last : ∀ d a, a < s.size d → lastD (dur s d a) (pend s d a) = now s d a
  log : ∀ r ∈ s.log, r.d < s.drv.length ∧ r.a < s.size r.d
theorem coh_mkS {ims : List (List UInt64)} : Coh (mkS ims) where
  len d := by simp only [durL, nowL, mkS, List.getD, List.getElem?_map]; cases ims[d]? <;> rfl
  last d a _ := by
    show dur (mkS ims) d a = _
    simp only [dur, now, durL, nowL, mkS, List.getD, List.getElem?_map]
    cases ims[d]? <;> rfl
  log r h := by cases h
theorem getD_set {l : List UInt64} {i j : Nat} {v : UInt64} (h : i < l.length) : (l.set i v).getD j 0 = if j = i then v else l.getD j 0 := by
  by_cases e : j = i
  · subst e; rw [if_pos rfl, getD_set_eq h]
  · rw [if_neg e, getD_set_ne (fun x => e x.symm)]
theorem drv_set {l : List Drive} {i j : Nat} {x : Drive} (h : i < l.length) : (l.set i x).getD j d0 = if j = i then x else l.getD j d0 := by
  simp only [List.getD, List.getElem?_set]
  by_cases e : i = j
  · subst e; simp [h]
  · rw [if_neg e, if_neg (fun x => e x.symm)]
section
variable {s : ArrS} {d a : Nat} {v : UInt64}
theorem durL_wr1 {e : Nat} (hd : d < s.drv.length) : durL (wr1 s d a v) e = durL s e := by
  unfold durL wr1 setNow
  rw [drv_set hd]; split
  · rename_i h; subst h; rfl
  · rfl
theorem pend_wr1 {e b : Nat} : pend (wr1 s d a v) e b = if d = e ∧ a = b then pend s e b ++ [v] else pend s e b := by
  show pendR (s.log ++ [⟨d, a, v⟩]) e b = _
  rw [pendR_append, pendR_one]; split <;> simp_all
theorem now_wr1 {e b : Nat} (hd : d < s.drv.length) (ha : a < s.size d) : now (wr1 s d a v) e b = if d = e ∧ a = b then v else now s e b := by
  unfold now
  rw [nowL_wr1 hd]
  by_cases h : e = d
  · subst h; rw [if_pos rfl, getD_set (show a < (nowL s e).length from ha)]
    by_cases h2 : b = a
    · subst h2; simp
    · rw [if_neg h2, if_neg (fun x => h2 x.2.symm)]
  · rw [if_neg h, if_neg (fun x => h x.1.symm)]
theorem dur_wr1 {e b : Nat} (hd : d < s.drv.length) : dur (wr1 s d a v) e b = dur s e b := by unfold dur; rw [durL_wr1 hd]
theorem Coh.wr1 (hc : Coh s) (hd : d < s.drv.length) (ha : a < s.size d) : Coh (wr1 s d a v) where
  len e := by rw [durL_wr1 hd, nowL_wr1 hd]; split
              · rename_i h; subst h; rw [List.length_set]; exact hc.len _
              · exact hc.len e
  last e b hb := by
    rw [size_wr1 hd] at hb
    have h1 := hc.last e b hb
    rw [dur_wr1 hd, pend_wr1, now_wr1 hd ha]
    by_cases h : d = e ∧ a = b
    · rw [if_pos h, if_pos h, lastD_snoc]
    · rw [if_neg h, if_neg h]; exact h1
  log r hr := by
    rw [drv_wr1, size_wr1 hd]
    rcases List.mem_append.1 (show r ∈ s.log ++ [⟨d, a, v⟩] from hr) with h | h
    · exact hc.log r h
    · rw [List.mem_singleton.1 h]; exact ⟨hd, ha⟩
end
/-- A flush of one disk. -/
def fl1 (s : ArrS) (d : Nat) : ArrS := { s with drv := s.drv.set d { s.drv.getD d d0 with dur := flDur (s.drv.getD d d0).now d s.log (s.drv.getD d d0).dur }, log := others d s.log }
theorem flDur_at {nw : List UInt64} {i a : Nat} : ∀ {log : List Rec} {du : List UInt64}, a < du.length → (flDur nw i log du).getD a 0 = if pendR log i a = [] then du.getD a 0 else nw.getD a 0
  | [], du, _ => by rw [pendR_nil, if_pos rfl]; rfl
  | r :: log, du, h => by
    show (flDur nw i log (if r.d = i then du.set r.a (nw.getD r.a 0) else du)).getD a 0 = _
    rw [flDur_at (by split <;> simpa using h), pendR_cons]
    by_cases hr : r.d = i
    · rw [if_pos hr]
      by_cases ha : r.a = a
      · rw [show (if r.d = i ∧ r.a = a then r.v :: pendR log i a else pendR log i a) = r.v :: pendR log i a from if_pos ⟨hr, ha⟩, if_neg (show ¬ r.v :: pendR log i a = [] by simp)]
        subst ha
        split
        · rw [getD_set_eq h]
        · rfl
      · rw [show (if r.d = i ∧ r.a = a then r.v :: pendR log i a else pendR log i a) = pendR log i a from if_neg (fun x => ha x.2), getD_set_ne ha]
    · rw [if_neg hr, show (if r.d = i ∧ r.a = a then r.v :: pendR log i a else pendR log i a) = pendR log i a from if_neg (fun x => hr x.1)]
section
variable {s : ArrS} {d : Nat}
@[simp] theorem drv_fl1 : (fl1 s d).drv.length = s.drv.length := by simp [fl1]
theorem nowL_fl1 {e : Nat} (hd : d < s.drv.length) : nowL (fl1 s d) e = nowL s e := by
  unfold nowL fl1
  rw [drv_set hd]; split
  · rename_i h; subst h; rfl
  · rfl
theorem size_fl1 {e : Nat} (hd : d < s.drv.length) : (fl1 s d).size e = s.size e := by rw [size_nowL, size_nowL, nowL_fl1 hd]
theorem pend_fl1 {e b : Nat} : pend (fl1 s d) e b = if e = d then [] else pend s e b := pendR_others
theorem dur_fl1 {e b : Nat} (hc : Coh s) (hd : d < s.drv.length) (hb : b < s.size e) : dur (fl1 s d) e b = if e = d then now s e b else dur s e b := by
  unfold dur durL fl1
  rw [drv_set hd]
  by_cases h : e = d
  · subst h
    rw [if_pos rfl, if_pos rfl]
    have hl := hc.last e b hb
    rw [flDur_at (by have := hc.len e; unfold durL at this; rw [this]; exact hb)]
    by_cases hp : pendR s.log e b = []
    · rw [if_pos hp]
      have : pend s e b = [] := hp
      rw [this] at hl
      exact hl
    · rw [if_neg hp]; rfl
  · rw [if_neg h, if_neg h]
theorem now_fl1 {e b : Nat} (hd : d < s.drv.length) : now (fl1 s d) e b = now s e b := by unfold now; rw [nowL_fl1 hd]
theorem Coh.fl1 (hc : Coh s) (hd : d < s.drv.length) : Coh (fl1 s d) where
  len e := by
    rw [nowL_fl1 hd]
    unfold durL Go.Proofs.fl1
    rw [drv_set hd]; split
    · rename_i h; subst h; rw [flDur_len]; exact hc.len _
    · exact hc.len e
  last e b hb := by
    rw [size_fl1 hd] at hb
    have h1 := hc.last e b hb
    rw [dur_fl1 hc hd hb, pend_fl1, now_fl1 hd]
    by_cases h : e = d
    · rw [if_pos h, if_pos h]; rfl
    · rw [if_neg h, if_neg h]; exact h1
  log r hr := by
    rw [drv_fl1, size_fl1 hd]
    exact hc.log r (List.mem_filter.1 (show r ∈ others d s.log from hr)).1
theorem miss_fl1 {e : Nat} (hd : d < s.drv.length) : ((fl1 s d).drv.getD e d0).miss = (s.drv.getD e d0).miss := by
  unfold fl1
  rw [drv_set hd]; split
  · rename_i h; subst h; rfl
  · rfl
theorem Good.fl1 (hg : Good s) (hd : d < s.drv.length) : Good (fl1 s d) where
  down := hg.down
  fuse := hg.fuse
  bad := hg.bad
  miss e := by rw [miss_fl1 hd]; exact hg.miss e
theorem flC_of (hdn : s.down = false) (hd : d < s.drv.length) : flC s d = if (s.drv.getD d d0).miss then 6 else 0 := by
  have h1 : cPow s = 0 := by simp [cPow, hdn]
  have h2 : cLoc s d = 0 := by rw [cLoc, if_pos (show inR s (d : Int) from ⟨by omega, by omega⟩)]
  simp only [flC, fz, h1, h2, cPre, missI, Int.toNat_natCast]
  by_cases hm : (s.drv.getD d d0).miss = true
  · simp [hm]
  · simp [hm]
theorem flS_of (h : flC s d = 0) : flS s d = fl1 s d := flS_ok h
end
theorem rsGo_nil : ∀ {log : List Rec} {n : Nat} {ds : List Drive}, rsGo [] n log ds = ds
  | [], _, _ => rfl
  | r :: log, n, ds => by
    show rsGo [] (n + 1) log (if ([] : List Bool).getD n false = true then putD ds r else ds) = ds
    rw [if_neg (by simp), rsGo_nil]
theorem rsGo_dur {ks : List Bool} {d a : Nat} : ∀ {log : List Rec} {n : Nat} {ds : List Drive}, d < ds.length → a < (ds.getD d d0).dur.length →
    (((rsGo ks n log ds).getD d d0).dur.getD a 0) ∈ ((ds.getD d d0).dur.getD a 0) :: pendR log d a
  | [], _, _, _, _ => List.mem_cons_self
  | r :: log, n, ds, hd, ha => by
    show ((rsGo ks (n + 1) log (if ks.getD n false = true then putD ds r else ds)).getD d d0).dur.getD a 0 ∈ _
    have hk := putD_keep ds r d
    by_cases h : ks.getD n false = true
    · rw [if_pos h]
      have := rsGo_dur (ks := ks) (d := d) (a := a) (log := log) (n := n + 1) (ds := putD ds r) (by rw [hk.1]; exact hd) (by rw [hk.2.2.1]; exact ha)
      rw [pendR_cons]
      by_cases hr : r.d = d
      · have e1 : (putD ds r).getD d d0 = { ds.getD d d0 with dur := (ds.getD d d0).dur.set r.a r.v } := by
          unfold putD; rw [drv_set (by omega), if_pos hr.symm, hr]
        rw [e1] at this
        by_cases hra : r.a = a
        · rw [if_pos ⟨hr, hra⟩]
          rw [hra, getD_set_eq ha] at this
          exact List.mem_cons_of_mem _ this
        · rw [if_neg (fun x => hra x.2)]
          rw [getD_set_ne hra] at this
          exact this
      · have e1 : (putD ds r).getD d d0 = ds.getD d d0 := by
          unfold putD
          by_cases hl : r.d < ds.length
          · rw [drv_set hl, if_neg (fun x => hr x.symm)]
          · rw [List.set_eq_of_length_le (by omega)]
        rw [e1] at this
        rw [if_neg (fun x => hr x.1)]; exact this
    · rw [if_neg h, pendR_cons]
      have := rsGo_dur (ks := ks) (d := d) (a := a) (log := log) (n := n + 1) (ds := ds) hd ha
      split
      · rcases List.mem_cons.1 this with e | e
        · rw [e]; exact List.mem_cons_self
        · exact List.mem_cons_of_mem _ (List.mem_cons_of_mem _ e)
      · exact this
section
variable {s : ArrS} {ks : List Bool}
@[simp] theorem drv_rs : (rsS s ks).drv.length = s.drv.length := by simp [rsS, (rsGo_keep ks s.log 0 s.drv 0).1]
theorem nowL_rs {d : Nat} : nowL (rsS s ks) d = durL (rsS s ks) d := by unfold nowL durL; rw [rs_at]; rfl
theorem durL_rs_len {d : Nat} : (durL (rsS s ks) d).length = (durL s d).length := by
  unfold durL; rw [rs_at]; exact (rsGo_keep ks s.log 0 s.drv d).2.2.1
theorem size_rs {d : Nat} (hc : Coh s) : (rsS s ks).size d = s.size d := by rw [size_nowL, nowL_rs, durL_rs_len, hc.len]; rfl
theorem now_rs {d a : Nat} : now (rsS s ks) d a = dur (rsS s ks) d a := by unfold now dur; rw [nowL_rs]
theorem pend_rs {d a : Nat} : pend (rsS s ks) d a = [] := rfl
theorem dur_rs {d a : Nat} (hc : Coh s) (hd : d < s.drv.length) (ha : a < s.size d) : dur (rsS s ks) d a ∈ cand s d a := by
  unfold dur durL; rw [rs_at]
  exact rsGo_dur hd (by have := hc.len d; unfold durL at this; rw [this]; exact ha)
theorem dur_rs_nil {d a : Nat} : dur (rsS s []) d a = dur s d a := by
  unfold dur durL; rw [rs_at, rsGo_nil]; rfl
theorem Coh.rs (hc : Coh s) : Coh (rsS s ks) where
  len d := by rw [nowL_rs]
  last d a _ := by show dur (rsS s ks) d a = _; rw [now_rs]
  log r h := by cases h
theorem miss_rs {d : Nat} : ((rsS s ks).drv.getD d d0).miss = (s.drv.getD d d0).miss := by rw [rs_at]; exact (rsGo_keep ks s.log 0 s.drv d).2.2.2
end
end Go.Proofs
