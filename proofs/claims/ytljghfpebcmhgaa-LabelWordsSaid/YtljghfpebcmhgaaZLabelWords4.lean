/- LabelWords, part 4 of the proof: PSpans, PGood, PGood2, PArr, PMapD, PFls, PUp, PAll, POne, LLab3, LAw11, PSpansA, PFlat0, PLabDev, PSame02, LLabelWords, PLabelWords. -/
import Derived.WalkKit
import Derived.Orders
import Derived.RangeFuncLeaves
import Derived.RangeFuncCalls
import Derived.TacticsIn
import Derived.Handy
import Derived.OrdersHeld
import Derived.OrdersIn
import Derived.Below
import Derived.OpenShut
import Derived.Deep.Slices
import Derived.Scope
import Derived.RangeFuncRecord
import Derived.ChangeKeysEq
import Derived.KernelRfl
import Derived.ProofKit
import Derived.ShutString
import Derived.ChangeOld
import Derived.Test.YtljghfpebcmhgaaChecked
import Derived.Test.YtljghfpebcmhgaaRows
import Derived.Test.YtljghfpebcmhgaaZLabelWords3
namespace Go.Proofs
open Go.VG
theorem insideB {n k m : Int} (hn : 0 ≤ n ∧ n ≤ 4611686018427387904) : block_inside n k m = some (decide (0 ≤ k ∧ k ≤ n ∧ 0 ≤ m ∧ m ≤ n - k)) := by
  unfold block_inside
  refine congrArg some ?_
  rw [Bool.eq_iff_iff]
  by_cases h : 0 ≤ k ∧ k ≤ n
  · rw [wrap64_in (by omega) (by omega)]; simp; omega
  · simp; omega
theorem inside1 {n k : Int} (hn : 0 ≤ n ∧ n ≤ 4611686018427387904) : block_inside n k 1 = some (decide (0 ≤ k ∧ k < n)) := by
  rw [insideB hn]; exact congrArg some (decide_eq_decide.2 (by omega))
theorem inI64_of {n : Int} (h : -4611686018427387904 ≤ n ∧ n ≤ 4611686018427387904) : inI64 n = true := inI64_iff.2 (by omega)
def spansA (s : ArrS) : List Dvc := (List.range s.drv.length).map fun i => Dvc.span ((i : Nat) : Int) 0 ((s.size i : Nat) : Int)
@[simp] theorem spansA_length {s : ArrS} : (spansA s).length = s.drv.length := by simp [spansA]
theorem sizeI_of {s : ArrS} {i : Nat} (h : i < s.drv.length) : sizeI s (i : Int) = ((s.size i : Nat) : Int) := by
  rw [sizeI, if_pos (show inR s (i : Int) from ⟨by omega, by omega⟩)]; simp
theorem span_mk {s : ArrS} {d st n : Int} (h1 : 1 ≤ n) (h2 : 0 ≤ st) (h3 : st + n ≤ sizeI s d) (h4 : sizeI s d ≤ 1000000000) : block_Span s d st n = some (some (Dvc.span d st n), 0) := by
  unfold block_Span
  rw [if_neg (by omega), insideB (by omega)]
  simp only [Option.bind_some]
  rw [if_neg (by simp; omega)]
theorem span_rd {s : ArrS} {d st n k : Int} (hn : 0 ≤ n ∧ n ≤ 1000000000) (hs : 0 ≤ st ∧ st ≤ 1000000000) : (Dvc.span d st n).rd s k = some (if 0 ≤ k ∧ k < n then (rdV s d (st + k), rdC s d (st + k)) else (0, 1)) := by
  show dvc_span_Read _ _ _ _ _ = _
  unfold dvc_span_Read
  rw [inside1 (by omega)]; simp only [Option.bind_some]
  by_cases h : 0 ≤ k ∧ k < n
  · rw [if_neg (by simp [h]), grd_t (inI64_of (by omega)), if_pos h]
  · rw [if_pos (by simpa using h), if_neg h]
theorem span_wr {s : ArrS} {d st n k : Int} {v : UInt64} (hn : 0 ≤ n ∧ n ≤ 1000000000) (hs : 0 ≤ st ∧ st ≤ 1000000000) (hw : s.writes ≤ 1000000000) : (Dvc.span d st n).wr s k v = some (if 0 ≤ k ∧ k < n then (wrR s d (st + k), wrS s d (st + k) v) else (1, s)) := by
  show dvc_span_Write _ _ _ _ _ _ = _
  unfold dvc_span_Write
  rw [inside1 (by omega)]; simp only [Option.bind_some]
  by_cases h : 0 ≤ k ∧ k < n
  · rw [if_neg (by simp [h]), grd_t (inI64_of (by omega)), grd_t (inLen_of hw), if_pos h]
  · rw [if_pos (by simpa using h), if_neg h]
theorem span_fl {s : ArrS} {d st n : Int} (hw : s.writes ≤ 1000000000) : (Dvc.span d st n).fl s = some (flC s d, flS s d) := by
  show dvc_span_Flush s d st n = _
  unfold dvc_span_Flush
  rw [grd_t (inLen_of hw)]
theorem inside_t {n k m : Int} (hn : n ≤ 1000000000) (h : 0 ≤ k ∧ 0 ≤ m ∧ k + m ≤ n) : block_inside n k m = some true := by
  rw [insideB (by omega)]; exact congrArg some (decide_eq_true (by omega))
end Go.Proofs
namespace Go.Proofs
open Go.VG
def nowL (s : ArrS) (d : Nat) : List UInt64 := (s.drv.getD d d0).now
theorem size_nowL {s : ArrS} {d : Nat} : s.size d = (nowL s d).length := rfl
structure Good (s : ArrS) : Prop where
  down : s.down = false
  fuse : s.fuse = 0
  bad : s.bad = []
  miss : ∀ d, (s.drv.getD d d0).miss = false
theorem good_mkS {ims : List (List UInt64)} : Good (mkS ims) where
  down := rfl
  fuse := rfl
  bad := rfl
  miss d := by
    simp only [mkS, List.getD, List.getElem?_map]
    cases ims[d]? <;> rfl
theorem nowL_mkS {ims : List (List UInt64)} {d : Nat} : nowL (mkS ims) d = ims.getD d [] := by
  simp only [nowL, mkS, List.getD, List.getElem?_map]
  cases ims[d]? <;> rfl
@[simp] theorem drv_mkS {ims : List (List UInt64)} : (mkS ims).drv.length = ims.length := by simp [mkS]
theorem Good.chk {s : ArrS} (hg : Good s) {d a : Nat} (hd : d < s.drv.length) (ha : a < s.size d) : cPow s = 0 ∧ cLoc s d = 0 ∧ cPla s d a = 0 ∧ cPre s d = 0 ∧ cWho s d a = 0 := by
  refine ⟨by simp [cPow, hg.down], ?_, ?_, by simp only [cPre, missI, Int.toNat_natCast, hg.miss d]; rfl, by simp [cWho, isBad, hg.bad, lookM]⟩
  · rw [cLoc, if_pos (show inR s (d : Int) from ⟨by omega, by omega⟩)]
  · rw [cPla, sizeI_of hd, if_pos (by omega)]
theorem Good.rdC {s : ArrS} (hg : Good s) {d a : Nat} (hd : d < s.drv.length) (ha : a < s.size d) : rdC s d a = 0 := by
  obtain ⟨h1, h2, h3, h4, h5⟩ := hg.chk hd ha
  simp [Go.Proofs.rdC, fz, h1, h2, h3, h4, h5]
theorem Good.rdV {s : ArrS} (hg : Good s) {d a : Nat} (hd : d < s.drv.length) (ha : a < s.size d) : rdV s d a = (nowL s d).getD a 0 := by
  rw [Go.Proofs.rdV, if_pos (hg.rdC hd ha)]; rfl
def wr1 (s : ArrS) (d a : Nat) (v : UInt64) : ArrS := { s with drv := setNow s d a v, log := s.log ++ [⟨d, a, v⟩], writes := s.writes + 1 }
theorem Good.wr {s : ArrS} (hg : Good s) {d a : Nat} {v : UInt64} (hd : d < s.drv.length) (ha : a < s.size d) : wrR s d a = 0 ∧ wrS s d a v = wr1 s d a v := by
  obtain ⟨h1, h2, h3, h4, h5⟩ := hg.chk hd ha
  have hc : wrC s d a = 0 := by simp [wrC, fz, h1, h2, h3, h4]
  refine ⟨by rw [wrR, if_neg (by simp [hc]), if_neg (by rw [hg.fuse]; decide)], ?_⟩
  rw [wrS, if_neg (by simp [hc]), if_neg (by rw [hg.fuse]; decide)]
  have hdel : delM ([] : List ((Int × Int) × Unit)) ((d : Int), (a : Int)) = [] := rfl
  simp only [wr1, Int.toNat_natCast, hg.bad, hg.fuse, hdel]
theorem nowL_wr1 {s : ArrS} {d a e : Nat} {v : UInt64} (hd : d < s.drv.length) : nowL (wr1 s d a v) e = if e = d then (nowL s d).set a v else nowL s e := by
  unfold nowL wr1 setNow
  simp only [List.getD, List.getElem?_set]
  by_cases h : d = e
  · subst h; simp [hd]
  · rw [if_neg h, if_neg (fun x => h x.symm)]
@[simp] theorem drv_wr1 {s : ArrS} {d a : Nat} {v : UInt64} : (wr1 s d a v).drv.length = s.drv.length := by simp [wr1, setNow]
@[simp] theorem writes_wr1 {s : ArrS} {d a : Nat} {v : UInt64} : (wr1 s d a v).writes = s.writes + 1 := rfl
theorem size_wr1 {s : ArrS} {d a e : Nat} {v : UInt64} (hd : d < s.drv.length) : (wr1 s d a v).size e = s.size e := by
  rw [size_nowL, size_nowL, nowL_wr1 hd]; split
  · rename_i h; rw [List.length_set, h]
  · rfl
theorem Good.wr1 {s : ArrS} (hg : Good s) {d a : Nat} {v : UInt64} : Good (wr1 s d a v) where
  down := hg.down
  fuse := hg.fuse
  bad := hg.bad
  miss e := by
    have h0 := hg.miss e
    simp only [Go.Proofs.wr1, setNow, List.getD, List.getElem?_set] at h0 ⊢
    by_cases h : d = e
    · subst h
      by_cases hl : d < s.drv.length
      · have h1 := hg.miss d
        simp [hl, List.getD] at h1 ⊢
        exact h1
      · simp [hl]
    · rw [if_neg h]; exact h0
end Go.Proofs
namespace Go.Proofs
open Go.VG
theorem Good.span_rd {s : ArrS} (hg : Good s) {d st n k : Nat} (hd : d < s.drv.length) (hk : k < n) (hn : st + n ≤ s.size d) (hb : s.size d ≤ 1000000000) : (Dvc.span (d : Int) (st : Int) (n : Int)).rd s (k : Int) = some ((nowL s d).getD (st + k) 0, 0) := by
  rw [Go.Proofs.span_rd (by omega) (by omega), if_pos (by omega)]
  have e : (st : Int) + (k : Int) = ((st + k : Nat) : Int) := by omega
  rw [e, hg.rdC hd (by omega), hg.rdV hd (by omega)]
theorem Good.span_wr {s : ArrS} (hg : Good s) {d st n k : Nat} {v : UInt64} (hd : d < s.drv.length) (hk : k < n) (hn : st + n ≤ s.size d) (hb : s.size d ≤ 1000000000) (hw : s.writes ≤ 1000000000) : (Dvc.span (d : Int) (st : Int) (n : Int)).wr s (k : Int) v = some (0, Go.Proofs.wr1 s d (st + k) v) := by
  rw [Go.Proofs.span_wr (by omega) (by omega) hw, if_pos (by omega)]
  have e : (st : Int) + (k : Int) = ((st + k : Nat) : Int) := by omega
  rw [e, (hg.wr (v := v) hd (by omega)).1, (hg.wr hd (by omega)).2]
def wrN (s : ArrS) (d a : Nat) (f : Nat → UInt64) : Nat → ArrS
  | 0 => s
  | n + 1 => wr1 (wrN s d a f n) d (a + n) (f n)
theorem Good.wrN {s : ArrS} (hg : Good s) {d a : Nat} {f : Nat → UInt64} : ∀ n, Good (wrN s d a f n)
  | 0 => hg
  | n + 1 => (Good.wrN hg n).wr1
@[simp] theorem drv_wrN {s : ArrS} {d a : Nat} {f : Nat → UInt64} : ∀ {n}, (wrN s d a f n).drv.length = s.drv.length
  | 0 => rfl
  | n + 1 => by rw [wrN, drv_wr1, drv_wrN]
@[simp] theorem writes_wrN {s : ArrS} {d a : Nat} {f : Nat → UInt64} : ∀ {n}, (wrN s d a f n).writes = s.writes + n
  | 0 => rfl
  | n + 1 => by rw [wrN, writes_wr1, writes_wrN]; omega
theorem getD_set_ne {l : List UInt64} {i j : Nat} {v : UInt64} (h : i ≠ j) : (l.set i v).getD j 0 = l.getD j 0 := by
  simp [List.getD, h]
theorem getD_set_eq {l : List UInt64} {i : Nat} {v : UInt64} (h : i < l.length) : (l.set i v).getD i 0 = v := by
  simp [List.getD, h]
end Go.Proofs
namespace Go.Proofs
open Go.VG
def durL (s : ArrS) (d : Nat) : List UInt64 := (s.drv.getD d d0).dur
def pendR (log : List Rec) (d a : Nat) : List UInt64 := (log.filter fun r => decide (r.d = d ∧ r.a = a)).map Rec.v
abbrev pend (s : ArrS) (d a : Nat) : List UInt64 := pendR s.log d a
def now (s : ArrS) (d a : Nat) : UInt64 := (nowL s d).getD a 0
def dur (s : ArrS) (d a : Nat) : UInt64 := (durL s d).getD a 0
abbrev cand (s : ArrS) (d a : Nat) : List UInt64 := dur s d a :: pend s d a
theorem pendR_nil {d a : Nat} : pendR [] d a = [] := rfl
theorem pendR_append {l l' : List Rec} {d a : Nat} : pendR (l ++ l') d a = pendR l d a ++ pendR l' d a := by simp [pendR]
theorem pendR_one {r : Rec} {d a : Nat} : pendR [r] d a = if r.d = d ∧ r.a = a then [r.v] else [] := by
  by_cases h : r.d = d ∧ r.a = a
  · simp [pendR, h]
  · simp [pendR, h]
theorem pendR_cons {r : Rec} {l : List Rec} {d a : Nat} : pendR (r :: l) d a = if r.d = d ∧ r.a = a then r.v :: pendR l d a else pendR l d a := by
  rw [show r :: l = [r] ++ l from rfl, pendR_append, pendR_one]; split <;> rfl
theorem pendR_others {l : List Rec} {d e a : Nat} : pendR (others e l) d a = if d = e then [] else pendR l d a := by
  unfold pendR others
  rw [List.filter_filter]
  by_cases h : d = e
  · subst h
    rw [if_pos rfl, List.filter_eq_nil_iff.2]; · rfl
    intro r _ hr; simp at hr; exact hr.2 hr.1.1
  · rw [if_neg h]
    congr 1; apply List.filter_congr; intro r _
    by_cases h2 : r.d = d ∧ r.a = a
    · simp [h2, h]
    · simp [h2]
def lastD : UInt64 → List UInt64 → UInt64
  | d, [] => d
  | _, x :: l => lastD x l
theorem lastD_snoc {v : UInt64} : ∀ {l : List UInt64} {d : UInt64}, lastD d (l ++ [v]) = v
  | [], _ => rfl
  | x :: l, _ => lastD_snoc (l := l) (d := x)
structure Coh (s : ArrS) : Prop where
  len : ∀ d, (durL s d).length = (nowL s d).length
  last : ∀ d a, a < s.size d → lastD (dur s d a) (pend s d a) = now s d a
  log : ∀ r ∈ s.log, r.d < s.drv.length ∧ r.a < s.size r.d
theorem coh_mkS {ims : List (List UInt64)} : Coh (mkS ims) where
  len d := by simp only [durL, nowL, mkS, List.getD, List.getElem?_map]; cases ims[d]? <;> rfl
  last d a _ := by
    show dur (mkS ims) d a = _
    simp only [dur, now, durL, nowL, mkS, List.getD, List.getElem?_map]
    cases ims[d]? <;> rfl
  log r h := by cases h
theorem getD_set {l : List UInt64} {i j : Nat} {v : UInt64} (h : i < l.length) : (l.set i v).getD j 0 = if j = i then v else l.getD j 0 := by
  by_cases e : j = i
  · subst e; rw [if_pos rfl, getD_set_eq h]
  · rw [if_neg e, getD_set_ne (fun x => e x.symm)]
theorem drv_set {l : List Drive} {i j : Nat} {x : Drive} (h : i < l.length) : (l.set i x).getD j d0 = if j = i then x else l.getD j d0 := by
  simp only [List.getD, List.getElem?_set]
  by_cases e : i = j
  · subst e; simp [h]
  · rw [if_neg e, if_neg (fun x => e x.symm)]
section
variable {s : ArrS} {d a : Nat} {v : UInt64}
theorem durL_wr1 {e : Nat} (hd : d < s.drv.length) : durL (wr1 s d a v) e = durL s e := by
  unfold durL wr1 setNow
  rw [drv_set hd]; split
  · rename_i h; subst h; rfl
  · rfl
theorem pend_wr1 {e b : Nat} : pend (wr1 s d a v) e b = if d = e ∧ a = b then pend s e b ++ [v] else pend s e b := by
  show pendR (s.log ++ [⟨d, a, v⟩]) e b = _
  rw [pendR_append, pendR_one]; split <;> simp_all
theorem now_wr1 {e b : Nat} (hd : d < s.drv.length) (ha : a < s.size d) : now (wr1 s d a v) e b = if d = e ∧ a = b then v else now s e b := by
  unfold now
  rw [nowL_wr1 hd]
  by_cases h : e = d
  · subst h; rw [if_pos rfl, getD_set (show a < (nowL s e).length from ha)]
    by_cases h2 : b = a
    · subst h2; simp
    · rw [if_neg h2, if_neg (fun x => h2 x.2.symm)]
  · rw [if_neg h, if_neg (fun x => h x.1.symm)]
theorem dur_wr1 {e b : Nat} (hd : d < s.drv.length) : dur (wr1 s d a v) e b = dur s e b := by unfold dur; rw [durL_wr1 hd]
theorem Coh.wr1 (hc : Coh s) (hd : d < s.drv.length) (ha : a < s.size d) : Coh (wr1 s d a v) where
  len e := by rw [durL_wr1 hd, nowL_wr1 hd]; split
              · rename_i h; subst h; rw [List.length_set]; exact hc.len _
              · exact hc.len e
  last e b hb := by
    rw [size_wr1 hd] at hb
    have h1 := hc.last e b hb
    rw [dur_wr1 hd, pend_wr1, now_wr1 hd ha]
    by_cases h : d = e ∧ a = b
    · rw [if_pos h, if_pos h, lastD_snoc]
    · rw [if_neg h, if_neg h]; exact h1
  log r hr := by
    rw [drv_wr1, size_wr1 hd]
    rcases List.mem_append.1 (show r ∈ s.log ++ [⟨d, a, v⟩] from hr) with h | h
    · exact hc.log r h
    · rw [List.mem_singleton.1 h]; exact ⟨hd, ha⟩
end
def fl1 (s : ArrS) (d : Nat) : ArrS := { s with drv := s.drv.set d { s.drv.getD d d0 with dur := flDur (s.drv.getD d d0).now d s.log (s.drv.getD d d0).dur }, log := others d s.log }
theorem flDur_at {nw : List UInt64} {i a : Nat} : ∀ {log : List Rec} {du : List UInt64}, a < du.length → (flDur nw i log du).getD a 0 = if pendR log i a = [] then du.getD a 0 else nw.getD a 0
  | [], du, _ => by rw [pendR_nil, if_pos rfl]; rfl
  | r :: log, du, h => by
    show (flDur nw i log (if r.d = i then du.set r.a (nw.getD r.a 0) else du)).getD a 0 = _
    rw [flDur_at (by split <;> simpa using h), pendR_cons]
    by_cases hr : r.d = i
    · rw [if_pos hr]
      by_cases ha : r.a = a
      · rw [show (if r.d = i ∧ r.a = a then r.v :: pendR log i a else pendR log i a) = r.v :: pendR log i a from if_pos ⟨hr, ha⟩, if_neg (show ¬ r.v :: pendR log i a = [] by simp)]
        subst ha
        split
        · rw [getD_set_eq h]
        · rfl
      · rw [show (if r.d = i ∧ r.a = a then r.v :: pendR log i a else pendR log i a) = pendR log i a from if_neg (fun x => ha x.2), getD_set_ne ha]
    · rw [if_neg hr, show (if r.d = i ∧ r.a = a then r.v :: pendR log i a else pendR log i a) = pendR log i a from if_neg (fun x => hr x.1)]
section
variable {s : ArrS} {d : Nat}
@[simp] theorem drv_fl1 : (fl1 s d).drv.length = s.drv.length := by simp [fl1]
theorem nowL_fl1 {e : Nat} (hd : d < s.drv.length) : nowL (fl1 s d) e = nowL s e := by
  unfold nowL fl1
  rw [drv_set hd]; split
  · rename_i h; subst h; rfl
  · rfl
theorem size_fl1 {e : Nat} (hd : d < s.drv.length) : (fl1 s d).size e = s.size e := by rw [size_nowL, size_nowL, nowL_fl1 hd]
theorem pend_fl1 {e b : Nat} : pend (fl1 s d) e b = if e = d then [] else pend s e b := pendR_others
theorem dur_fl1 {e b : Nat} (hc : Coh s) (hd : d < s.drv.length) (hb : b < s.size e) : dur (fl1 s d) e b = if e = d then now s e b else dur s e b := by
  unfold dur durL fl1
  rw [drv_set hd]
  by_cases h : e = d
  · subst h
    rw [if_pos rfl, if_pos rfl]
    have hl := hc.last e b hb
    rw [flDur_at (by have := hc.len e; unfold durL at this; rw [this]; exact hb)]
    by_cases hp : pendR s.log e b = []
    · rw [if_pos hp]
      have : pend s e b = [] := hp
      rw [this] at hl
      exact hl
    · rw [if_neg hp]; rfl
  · rw [if_neg h, if_neg h]
theorem now_fl1 {e b : Nat} (hd : d < s.drv.length) : now (fl1 s d) e b = now s e b := by unfold now; rw [nowL_fl1 hd]
theorem Coh.fl1 (hc : Coh s) (hd : d < s.drv.length) : Coh (fl1 s d) where
  len e := by
    rw [nowL_fl1 hd]
    unfold durL Go.Proofs.fl1
    rw [drv_set hd]; split
    · rename_i h; subst h; rw [flDur_len]; exact hc.len _
    · exact hc.len e
  last e b hb := by
    rw [size_fl1 hd] at hb
    have h1 := hc.last e b hb
    rw [dur_fl1 hc hd hb, pend_fl1, now_fl1 hd]
    by_cases h : e = d
    · rw [if_pos h, if_pos h]; rfl
    · rw [if_neg h, if_neg h]; exact h1
  log r hr := by
    rw [drv_fl1, size_fl1 hd]
    exact hc.log r (List.mem_filter.1 (show r ∈ others d s.log from hr)).1
theorem miss_fl1 {e : Nat} (hd : d < s.drv.length) : ((fl1 s d).drv.getD e d0).miss = (s.drv.getD e d0).miss := by
  unfold fl1
  rw [drv_set hd]; split
  · rename_i h; subst h; rfl
  · rfl
theorem Good.fl1 (hg : Good s) (hd : d < s.drv.length) : Good (fl1 s d) where
  down := hg.down
  fuse := hg.fuse
  bad := hg.bad
  miss e := by rw [miss_fl1 hd]; exact hg.miss e
theorem flC_of (hdn : s.down = false) (hd : d < s.drv.length) : flC s d = if (s.drv.getD d d0).miss then 6 else 0 := by
  have h1 : cPow s = 0 := by simp [cPow, hdn]
  have h2 : cLoc s d = 0 := by rw [cLoc, if_pos (show inR s (d : Int) from ⟨by omega, by omega⟩)]
  simp only [flC, fz, h1, h2, cPre, missI, Int.toNat_natCast]
  by_cases hm : (s.drv.getD d d0).miss = true
  · simp
  · simp
theorem flS_of (h : flC s d = 0) : flS s d = fl1 s d := flS_ok h
end
theorem rsGo_dur {ks : List Bool} {d a : Nat} : ∀ {log : List Rec} {n : Nat} {ds : List Drive}, d < ds.length → a < (ds.getD d d0).dur.length →
    (((rsGo ks n log ds).getD d d0).dur.getD a 0) ∈ ((ds.getD d d0).dur.getD a 0) :: pendR log d a
  | [], _, _, _, _ => List.mem_cons_self
  | r :: log, n, ds, hd, ha => by
    show ((rsGo ks (n + 1) log (if ks.getD n false = true then putD ds r else ds)).getD d d0).dur.getD a 0 ∈ _
    have hk := putD_keep ds r d
    by_cases h : ks.getD n false = true
    · rw [if_pos h]
      have := rsGo_dur (ks := ks) (d := d) (a := a) (log := log) (n := n + 1) (ds := putD ds r) (by rw [hk.1]; exact hd) (by rw [hk.2.2.1]; exact ha)
      rw [pendR_cons]
      by_cases hr : r.d = d
      · have e1 : (putD ds r).getD d d0 = { ds.getD d d0 with dur := (ds.getD d d0).dur.set r.a r.v } := by
          unfold putD; rw [drv_set (by omega), if_pos hr.symm, hr]
        rw [e1] at this
        by_cases hra : r.a = a
        · rw [if_pos ⟨hr, hra⟩]
          rw [hra, getD_set_eq ha] at this
          exact List.mem_cons_of_mem _ this
        · rw [if_neg (fun x => hra x.2)]
          rw [getD_set_ne hra] at this
          exact this
      · have e1 : (putD ds r).getD d d0 = ds.getD d d0 := by
          unfold putD
          by_cases hl : r.d < ds.length
          · rw [drv_set hl, if_neg (fun x => hr x.symm)]
          · rw [List.set_eq_of_length_le (by omega)]
        rw [e1] at this
        rw [if_neg (fun x => hr x.1)]; exact this
    · rw [if_neg h, pendR_cons]
      have := rsGo_dur (ks := ks) (d := d) (a := a) (log := log) (n := n + 1) (ds := ds) hd ha
      split
      · rcases List.mem_cons.1 this with e | e
        · rw [e]; exact List.mem_cons_self
        · exact List.mem_cons_of_mem _ (List.mem_cons_of_mem _ e)
      · exact this
section
variable {s : ArrS} {ks : List Bool}
@[simp] theorem drv_rs : (rsS s ks).drv.length = s.drv.length := by simp [rsS, (rsGo_keep ks s.log 0 s.drv 0).1]
theorem nowL_rs {d : Nat} : nowL (rsS s ks) d = durL (rsS s ks) d := by unfold nowL durL; rw [rs_at]; rfl
theorem durL_rs_len {d : Nat} : (durL (rsS s ks) d).length = (durL s d).length := by
  unfold durL; rw [rs_at]; exact (rsGo_keep ks s.log 0 s.drv d).2.2.1
theorem size_rs {d : Nat} (hc : Coh s) : (rsS s ks).size d = s.size d := by rw [size_nowL, nowL_rs, durL_rs_len, hc.len]; rfl
theorem now_rs {d a : Nat} : now (rsS s ks) d a = dur (rsS s ks) d a := by unfold now dur; rw [nowL_rs]
theorem dur_rs {d a : Nat} (hc : Coh s) (hd : d < s.drv.length) (ha : a < s.size d) : dur (rsS s ks) d a ∈ cand s d a := by
  unfold dur durL; rw [rs_at]
  exact rsGo_dur hd (by have := hc.len d; unfold durL at this; rw [this]; exact ha)
theorem Coh.rs (_hc : Coh s) : Coh (rsS s ks) where
  len d := by rw [nowL_rs]
  last d a _ := by show dur (rsS s ks) d a = _; rw [now_rs]
  log r h := by cases h
theorem miss_rs {d : Nat} : ((rsS s ks).drv.getD d d0).miss = (s.drv.getD d d0).miss := by rw [rs_at]; exact (rsGo_keep ks s.log 0 s.drv d).2.2.2
end
end Go.Proofs
namespace Go.Proofs
open Go.VG
structure InSz (ns : List Nat) (s : ArrS) : Prop where
  cnt : s.drv.length = ns.length
  size : ∀ d, d < ns.length → s.size d = ns.getD d 0
  wr : s.writes ≤ 1000000000
theorem flS_drv {s : ArrS} {d : Nat} : (flS s d).drv.length = s.drv.length := by unfold flS; split <;> simp
theorem flS_writes {s : ArrS} {d : Int} : (flS s d).writes = s.writes := by unfold flS; split <;> rfl
theorem flS_size {s : ArrS} {d e : Nat} : (flS s d).size e = s.size e := by
  unfold flS; split
  · rfl
  · rename_i h
    have hd : d < s.drv.length := by
      rcases Nat.lt_or_ge d s.drv.length with h' | h'
      · exact h'
      · exfalso; apply h
        have : cLoc s (d : Int) = 1 := by rw [cLoc, if_neg (fun x : inR s (d : Int) => by have := x.2; omega)]
        intro h0
        have h1 := h0
        unfold flC fz at h1
        by_cases hp : cPow s = 0
        · simp [hp, fz, this] at h1
        · simp [hp] at h1
    exact size_fl1 (s := s) hd
theorem InSz.flS {ns : List Nat} {s : ArrS} (h : InSz ns s) (d : Nat) : InSz ns (flS s d) := ⟨by rw [flS_drv]; exact h.cnt, fun e he => by rw [flS_size]; exact h.size e he, by rw [flS_writes]; exact h.wr⟩
def flsS : ArrS → List Nat → ArrS
  | s, [] => s
  | s, d :: ds => flsS (flS s d) ds
def flsC : ArrS → List Nat → Int
  | _, [] => 0
  | s, d :: ds => if flC s d = 0 then flsC (flS s d) ds else flC s d
theorem InSz.flsS {ns : List Nat} : ∀ {ds : List Nat} {s : ArrS}, InSz ns s → InSz ns (flsS s ds)
  | [], _, h => h
  | d :: ds, s, h => show InSz ns (Go.Proofs.flsS (Go.Proofs.flS s d) ds) from InSz.flsS (h.flS d)
structure MapD (ns : List Nat) (x : Dvc) (n : Nat) (f : Nat → Nat × Nat) (ds : List Nat) : Prop where
  small : n ≤ 1000000000
  at_ : ∀ k, k < n → (f k).1 < ns.length ∧ (f k).2 < ns.getD (f k).1 0 ∧ (f k).1 ∈ ds
  size : ∀ s, InSz ns s → x.size s = some (n : Int)
  rd : ∀ s (k : Nat), InSz ns s → k < n → x.rd s (k : Int) = some (rdV s (f k).1 (f k).2, rdC s (f k).1 (f k).2)
  rdo : ∀ s (k : Int), InSz ns s → ¬ (0 ≤ k ∧ k < n) → x.rd s k = some (0, 1)
  wr : ∀ s (k : Nat) v, InSz ns s → k < n → x.wr s (k : Int) v = some (wrR s (f k).1 (f k).2, wrS s (f k).1 (f k).2 v)
  wro : ∀ s (k : Int) v, InSz ns s → ¬ (0 ≤ k ∧ k < n) → x.wr s k v = some (1, s)
  fl : ∀ s, InSz ns s → x.fl s = some (flsC s ds, flsS s ds)
theorem MapD.span {ns : List Nat} {d st n : Nat} (hd : d < ns.length) (hn : st + n ≤ ns.getD d 0) (hb : ns.getD d 0 ≤ 1000000000) : MapD ns (Dvc.span (d : Int) (st : Int) (n : Int)) n (fun k => (d, st + k)) [d] where
  small := by omega
  at_ k hk := ⟨hd, by show st + k < ns.getD d 0; omega, List.mem_singleton.2 rfl⟩
  size s h := rfl
  rd s k h hk := by
    rw [span_rd (by omega) (by omega), if_pos (by omega)]
    have e : (st : Int) + (k : Int) = ((st + k : Nat) : Int) := by omega
    rw [e]
  rdo s k h hk := by rw [span_rd (by omega) (by omega), if_neg hk]
  wr s k v h hk := by
    rw [span_wr (by omega) (by omega) h.wr, if_pos (by omega)]
    have e : (st : Int) + (k : Int) = ((st + k : Nat) : Int) := by omega
    rw [e]
  wro s k v h hk := by rw [span_wr (by omega) (by omega) h.wr, if_neg hk]
  fl s h := by
    rw [span_fl h.wr]
    show _ = some ((if flC s d = 0 then (0 : Int) else flC s d), flS s d)
    by_cases e : flC s d = 0
    · rw [if_pos e, e]
    · rw [if_neg e]
end Go.Proofs
namespace Go.Proofs
open Go.VG
def miss (s : ArrS) (d : Nat) : Bool := (s.drv.getD d d0).miss
structure Flushed (s : ArrS) (ds : List Nat) (t : ArrS) : Prop where
  drv : t.drv.length = s.drv.length
  now : ∀ d, nowL t d = nowL s d
  dur : ∀ d a, a < s.size d → dur t d a = if d ∈ ds ∧ miss s d = false then Go.Proofs.now s d a else Go.Proofs.dur s d a
  pend : ∀ d a, pend t d a = if d ∈ ds ∧ miss s d = false then [] else Go.Proofs.pend s d a
  miss : ∀ d, miss t d = Go.Proofs.miss s d
  down : t.down = s.down
  fuse : t.fuse = s.fuse
  bad : t.bad = s.bad
  wr : t.writes = s.writes
  coh : Coh t
theorem Flushed.none {s : ArrS} (h : Coh s) : Flushed s [] s where
  drv := rfl
  now _ := rfl
  dur _ _ _ := by simp
  pend _ _ := by simp
  miss _ := rfl
  down := rfl
  fuse := rfl
  bad := rfl
  wr := rfl
  coh := h
theorem flC_miss {s : ArrS} {d : Nat} (hdn : s.down = false) (hd : d < s.drv.length) : flC s d = if miss s d then 6 else 0 := flC_of hdn hd
theorem flS_miss {s : ArrS} {d : Nat} (hdn : s.down = false) (hd : d < s.drv.length) : flS s d = if miss s d then s else fl1 s d := by
  have h := flC_miss hdn hd
  by_cases hm : miss s d = true
  · rw [if_pos hm] at h; rw [if_pos hm]
    unfold flS; rw [if_pos (by rw [h]; decide)]
  · rw [if_neg hm] at h; rw [if_neg hm]; exact flS_of h
theorem flushed : ∀ {ds : List Nat} {s : ArrS}, Coh s → s.down = false → (∀ d ∈ ds, d < s.drv.length) → Flushed s ds (flsS s ds) ∧ flsC s ds = if ds.any (fun d => miss s d) then 6 else 0
  | [], s, hc, _, _ => ⟨Flushed.none hc, rfl⟩
  | d :: ds, s, hc, hdn, hds => by
    have hd := hds d List.mem_cons_self
    have hC := flC_miss hdn hd
    have hS := flS_miss hdn hd
    show Flushed s (d :: ds) (flsS (flS s d) ds) ∧ (if flC s d = 0 then flsC (flS s d) ds else flC s d) = _
    by_cases hm : miss s d = true
    · rw [if_pos hm] at hC hS
      rw [hS, hC]
      obtain ⟨h1, -⟩ := flushed (ds := ds) hc hdn (fun e he => hds e (List.mem_cons_of_mem _ he))
      refine ⟨{ h1 with dur := fun e a ha => ?_, pend := fun e a => ?_ }, by simp [hm]⟩
      · rw [h1.dur e a ha]
        by_cases he : e = d
        · subst he; rw [if_neg (by simp [hm]), if_neg (by simp [hm])]
        · simp [he]
      · rw [h1.pend e a]
        by_cases he : e = d
        · subst he; rw [if_neg (by simp [hm]), if_neg (by simp [hm])]
        · simp [he]
    · have hm' : miss s d = false := by simpa using hm
      rw [if_neg hm] at hC hS
      rw [hS, hC]
      have hmm : ∀ e, miss (fl1 s d) e = miss s e := fun e => miss_fl1 hd
      obtain ⟨h1, h2⟩ := flushed (ds := ds) (s := fl1 s d) (hc.fl1 hd) hdn (fun e he => by rw [drv_fl1]; exact hds e (List.mem_cons_of_mem _ he))
      refine ⟨⟨by rw [h1.drv, drv_fl1], fun e => by rw [h1.now, nowL_fl1 hd], fun e a ha => ?_, fun e a => ?_, fun e => by rw [h1.miss, hmm], h1.down, h1.fuse, h1.bad, h1.wr, h1.coh⟩, ?_⟩
      · rw [h1.dur e a (by rw [size_fl1 hd]; exact ha), hmm, now_fl1 hd, dur_fl1 hc hd ha]
        by_cases he : e = d
        · subst he; simp [hm']
        · simp [he]
      · rw [h1.pend e a, hmm, pend_fl1]
        by_cases he : e = d
        · subst he; simp [hm']
        · simp [he]
      · rw [if_pos rfl, h2, List.any_cons, hm', Bool.false_or]
        congr 1
        simp only [hmm]
theorem Flushed.size {s t : ArrS} {ds : List Nat} (h : Flushed s ds t) {d : Nat} : t.size d = s.size d := by rw [size_nowL, size_nowL, h.now]
theorem Flushed.inSz {ns : List Nat} {s t : ArrS} {ds : List Nat} (h : Flushed s ds t) (hs : InSz ns s) : InSz ns t := ⟨by rw [h.drv]; exact hs.cnt, fun d hd => by rw [h.size]; exact hs.size d hd, by rw [h.wr]; exact hs.wr⟩
theorem Flushed.nowAt {s t : ArrS} {ds : List Nat} (h : Flushed s ds t) {d a : Nat} : Go.Proofs.now t d a = Go.Proofs.now s d a := by unfold Go.Proofs.now; rw [h.now]
structure Missed (s : ArrS) (p : Nat → Bool) (t : ArrS) : Prop where
  drv : t.drv.length = s.drv.length
  now : ∀ d, nowL t d = nowL s d
  dur : ∀ d, durL t d = durL s d
  log : t.log = s.log
  miss : ∀ d, d < s.drv.length → miss t d = p d
  down : t.down = s.down
  fuse : t.fuse = s.fuse
  bad : t.bad = s.bad
  wr : t.writes = s.writes
theorem Missed.coh {s t : ArrS} {p : Nat → Bool} (h : Missed s p t) (hc : Coh s) : Coh t where
  len d := by rw [h.now, h.dur]; exact hc.len d
  last d a ha := by
    have h1 := hc.last d a (by rw [size_nowL] at ha ⊢; rw [← h.now]; exact ha)
    unfold Go.Proofs.now Go.Proofs.dur pend at h1 ⊢
    rw [h.now, h.dur, h.log]; exact h1
  log r hr := by
    rw [h.log] at hr
    have := hc.log r hr
    rw [h.drv, size_nowL, h.now]; exact this
theorem Missed.size {s t : ArrS} {p : Nat → Bool} (h : Missed s p t) {d : Nat} : t.size d = s.size d := by rw [size_nowL, size_nowL, h.now]
theorem Missed.inSz {ns : List Nat} {s t : ArrS} {p : Nat → Bool} (h : Missed s p t) (hs : InSz ns s) : InSz ns t := ⟨by rw [h.drv]; exact hs.cnt, fun d hd => by rw [h.size]; exact hs.size d hd, by rw [h.wr]; exact hs.wr⟩
theorem Missed.self {s : ArrS} : Missed s (Go.Proofs.miss s) s := ⟨rfl, fun _ => rfl, fun _ => rfl, rfl, fun _ _ => rfl, rfl, rfl, rfl, rfl⟩
theorem smS_of {s : ArrS} {d : Nat} {b : Bool} (hd : d < s.drv.length) : smS s d b = { s with drv := s.drv.set d { s.drv.getD d d0 with miss := b } } := by
  rw [smS, if_pos (show inR s (d : Int) from ⟨by omega, by omega⟩)]; rfl
theorem Missed.set {s t : ArrS} {p : Nat → Bool} (h : Missed s p t) {d : Nat} {b : Bool} (hd : d < s.drv.length) : Missed s (fun e => if e = d then b else p e) (smS t d b) := by
  have hd' : d < t.drv.length := by rw [h.drv]; exact hd
  rw [smS_of hd']
  refine ⟨by simpa using h.drv, fun e => ?_, fun e => ?_, h.log, fun e he => ?_, h.down, h.fuse, h.bad, h.wr⟩
  · rw [← h.now]; unfold nowL; rw [drv_set hd']; split
    · rename_i x; subst x; rfl
    · rfl
  · rw [← h.dur]; unfold durL; rw [drv_set hd']; split
    · rename_i x; subst x; rfl
    · rfl
  · unfold Go.Proofs.miss; rw [drv_set hd']; split
    · rfl
    · exact h.miss e he
end Go.Proofs
namespace Go.Proofs
open Go.VG
structure ArrOk (ns : List Nat) (K : Nat) (s : ArrS) : Prop where
  sz : InSz ns s
  wr : s.writes ≤ K
  coh : Coh s
  bad : s.bad = []
section
variable {ns : List Nat} {K d a : Nat} {s : ArrS} {v : UInt64}
theorem ArrOk.mono {K' : Nat} (h : ArrOk ns K s) (hK : K ≤ K') : ArrOk ns K' s := { h with wr := Nat.le_trans h.wr hK }
theorem ArrOk.disk (h : ArrOk ns K s) (hd : d < ns.length) : d < s.drv.length := by rw [h.sz.cnt]; exact hd
theorem ArrOk.sect (h : ArrOk ns K s) (hd : d < ns.length) (ha : a < ns.getD d 0) : a < s.size d := by rw [h.sz.size d hd]; exact ha
theorem ArrOk.chk (h : ArrOk ns K s) (hdn : s.down = false) (hd : d < ns.length) (ha : a < ns.getD d 0) : cPow s = 0 ∧ cLoc s d = 0 ∧ cPla s d a = 0 ∧ cPre s d = (if miss s d then 6 else 0) ∧ cWho s d a = 0 := by
  have hdd := h.disk hd
  have haa := h.sect hd ha
  refine ⟨by simp [cPow, hdn], ?_, ?_, ?_, by simp [cWho, isBad, h.bad, lookM]⟩
  · rw [cLoc, if_pos (show inR s (d : Int) from ⟨by omega, by omega⟩)]
  · rw [cPla, sizeI_of hdd, if_pos (by omega)]
  · simp only [cPre, missI, Int.toNat_natCast, miss]; by_cases hh : (s.drv.getD d d0).miss = true <;> simp
theorem ArrOk.rdA (h : ArrOk ns K s) (hdn : s.down = false) (hd : d < ns.length) (ha : a < ns.getD d 0) (hm : miss s d = false) : rdV s d a = now s d a ∧ rdC s d a = 0 := by
  obtain ⟨h1, h2, h3, h4, h5⟩ := h.chk hdn hd ha
  rw [hm] at h4
  have hC : rdC s d a = 0 := by simp [rdC, fz, h1, h2, h3, h4, h5]
  exact ⟨by rw [rdV, if_pos hC]; rfl, hC⟩
structure Wrote (ns : List Nat) (K : Nat) (s : ArrS) (d a : Nat) (v : UInt64) (t : ArrS) : Prop where
  ok : ArrOk ns (K + 1) t
  dn : t.down = false
  fuse : t.fuse = s.fuse - 1
  miss : ∀ e, Go.Proofs.miss t e = Go.Proofs.miss s e
  now : ∀ e b, Go.Proofs.now t e b = if d = e ∧ a = b then v else Go.Proofs.now s e b
  cand : ∀ e b, Go.Proofs.cand t e b = if d = e ∧ a = b then Go.Proofs.cand s e b ++ [v] else Go.Proofs.cand s e b
structure Fell (ns : List Nat) (K : Nat) (s t : ArrS) : Prop where
  ok : ArrOk ns K t
  dn : t.down = true
  miss : ∀ e, Go.Proofs.miss t e = Go.Proofs.miss s e
  now : ∀ e b, Go.Proofs.now t e b = Go.Proofs.now s e b
  cand : ∀ e b, Go.Proofs.cand t e b = Go.Proofs.cand s e b
theorem ArrOk.wrA (h : ArrOk ns K s) (hK : K ≤ 1000000) (hdn : s.down = false) (hd : d < ns.length) (ha : a < ns.getD d 0) (hm : miss s d = false) :
    (s.fuse ≠ 1 ∧ wrR s d a = 0 ∧ Wrote ns K s d a v (wrS s d a v)) ∨ (s.fuse = 1 ∧ wrR s d a = 5 ∧ Fell ns K s (wrS s d a v)) := by
  obtain ⟨h1, h2, h3, h4, h5⟩ := h.chk hdn hd ha
  rw [hm] at h4
  have hdd := h.disk hd
  have haa := h.sect hd ha
  have hC : wrC s d a = 0 := by simp [wrC, fz, h1, h2, h3, h4]
  have hC' : ¬ wrC s d a ≠ 0 := fun x => x hC
  by_cases hf : s.fuse = 1
  · refine .inr ⟨hf, by rw [wrR, if_neg hC', if_pos hf], ?_⟩
    rw [wrS, if_neg hC', if_pos hf]
    exact ⟨⟨⟨h.sz.cnt, h.sz.size, h.sz.wr⟩, h.wr, ⟨h.coh.len, h.coh.last, h.coh.log⟩, h.bad⟩, rfl, fun _ => rfl, fun _ _ => rfl, fun _ _ => rfl⟩
  · refine .inl ⟨hf, by rw [wrR, if_neg hC', if_neg hf], ?_⟩
    rw [wrS, if_neg hC', if_neg hf]
    have hbad : delM s.bad ((d : Int), (a : Int)) = [] := by rw [h.bad]; rfl
    have hs' : ({ s with drv := setNow s (d : Int).toNat (a : Int).toNat v, bad := delM s.bad ((d : Int), (a : Int)), log := s.log ++ [⟨(d : Int).toNat, (a : Int).toNat, v⟩], fuse := s.fuse - 1, writes := s.writes + 1 } : ArrS) = { wr1 s d a v with bad := [], fuse := s.fuse - 1 } := by
      simp only [wr1, Int.toNat_natCast, hbad]
    rw [hs']
    have hcoh := h.coh.wr1 (v := v) hdd haa
    refine ⟨⟨⟨by show (wr1 s _ _ _).drv.length = _; rw [drv_wr1]; exact h.sz.cnt, fun e he => by show (wr1 s _ _ _).size e = _; rw [size_wr1 hdd]; exact h.sz.size e he, by show s.writes + 1 ≤ _; have := h.wr; omega⟩, by show s.writes + 1 ≤ _; have := h.wr; omega, ⟨hcoh.len, hcoh.last, hcoh.log⟩, rfl⟩, hdn, rfl, fun e => ?_, fun e b => now_wr1 hdd haa, fun e b => ?_⟩
    · show (((setNow s d a v).getD e d0)).miss = _
      unfold setNow Go.Proofs.miss; rw [drv_set hdd]; split
      · rename_i x; subst x; rfl
      · rfl
    · show dur (wr1 s d a v) e b :: pend (wr1 s d a v) e b = _
      rw [dur_wr1 hdd, pend_wr1]; split <;> rfl
structure Flushed1 (ns : List Nat) (K : Nat) (s : ArrS) (d : Nat) (t : ArrS) : Prop where
  ok : ArrOk ns K t
  dn : t.down = false
  fuse : t.fuse = s.fuse
  miss : ∀ e, Go.Proofs.miss t e = Go.Proofs.miss s e
  now : ∀ e b, Go.Proofs.now t e b = Go.Proofs.now s e b
  cand : ∀ e b, e < ns.length → b < ns.getD e 0 → Go.Proofs.cand t e b = if d = e then [Go.Proofs.now s e b] else Go.Proofs.cand s e b
theorem ArrOk.flA (h : ArrOk ns K s) (hdn : s.down = false) (hd : d < ns.length) (hm : miss s d = false) : flC s d = 0 ∧ Flushed1 ns K s d (flS s d) := by
  have hdd := h.disk hd
  obtain ⟨h1, h2⟩ := flushed (ds := [d]) h.coh hdn (fun e he => by rw [List.mem_singleton.1 he]; exact hdd)
  have hany : [d].any (fun d => Go.Proofs.miss s d) = false := by simp [hm]
  rw [hany] at h2
  have h3 : flC s d = 0 := by
    have h4 : (if flC s d = 0 then (0 : Int) else flC s d) = 0 := h2
    by_cases h5 : flC s d = 0
    · exact h5
    · rwa [if_neg h5] at h4
  have h6 : flsS s [d] = flS s d := rfl
  rw [h6] at h1
  refine ⟨h3, ⟨⟨h1.inSz h.sz, by rw [h1.wr]; exact h.wr, h1.coh, by rw [h1.bad]; exact h.bad⟩, by rw [h1.down]; exact hdn, h1.fuse, h1.miss, fun e b => h1.nowAt, fun e b he hb => ?_⟩⟩
  show Go.Proofs.dur _ _ _ :: Go.Proofs.pend _ _ _ = _
  rw [h1.dur _ _ (h.sect he hb), h1.pend]
  by_cases e1 : d = e
  · subst e1; rw [if_pos ⟨List.mem_singleton.2 rfl, hm⟩, if_pos ⟨List.mem_singleton.2 rfl, hm⟩, if_pos rfl]
  · rw [if_neg (fun x => e1 (List.mem_singleton.1 x.1).symm), if_neg (fun x => e1 (List.mem_singleton.1 x.1).symm), if_neg e1]
structure Restarted (ns : List Nat) (K : Nat) (s t : ArrS) : Prop where
  ok : ArrOk ns K t
  dn : t.down = false
  fuse : t.fuse = 0
  miss : ∀ e, Go.Proofs.miss t e = Go.Proofs.miss s e
  now : ∀ e b, e < ns.length → b < ns.getD e 0 → Go.Proofs.now t e b ∈ Go.Proofs.cand s e b
  cand : ∀ e b, Go.Proofs.cand t e b = [Go.Proofs.now t e b]
  unfl : t.log = []
theorem ArrOk.rs (h : ArrOk ns K s) (ks : List Bool) : Restarted ns K s (rsS s ks) where
  ok := ⟨⟨by rw [drv_rs]; exact h.sz.cnt, fun d hd => by rw [size_rs h.coh]; exact h.sz.size d hd, h.sz.wr⟩, h.wr, h.coh.rs, h.bad⟩
  dn := rfl
  fuse := rfl
  miss e := by unfold Go.Proofs.miss; rw [miss_rs]
  now e b he hb := by rw [now_rs]; exact dur_rs h.coh (h.disk he) (h.sect he hb)
  cand e b := by
    show [dur (rsS s ks) e b] = _
    rw [now_rs]
  unfl := rfl
theorem ArrOk.fuse (h : ArrOk ns K s) {m : Nat} : ArrOk ns K { s with fuse := m } := ⟨⟨h.sz.cnt, h.sz.size, h.sz.wr⟩, h.wr, ⟨h.coh.len, h.coh.last, h.coh.log⟩, h.bad⟩
end
end Go.Proofs
namespace Go.Proofs
open Go.VG
section
variable {x y : Dvc} {s : ArrS} {at_ : Int} {n : Nat}
theorem readAll_l1 {f : Nat → UInt64} (ha : 0 ≤ at_ ∧ at_ + n ≤ 1000000000) (hr : ∀ i, i < n → x.rd s (at_ + i) = some (f i, 0)) : ∀ (N i : Nat) (acc : List UInt64), n - i < N → i ≤ n → acc = (List.range i).map f →
    block_ReadAll_l1 x at_ (n : Int) s N i acc = some (.inl ((List.range n).map f))
  | 0, _, _, h, _, _ => absurd h (by omega)
  | N + 1, i, acc, h, hi, he => by
    show block_ReadAll_l1_b _ _ _ _ _ _ _ = _
    unfold block_ReadAll_l1_b
    subst he
    by_cases hlt : i < n
    · rw [if_pos (by omega), grd_t (inI64_of (by omega)), hr i hlt]
      simp only [Option.bind_some]
      rw [if_neg (by simp), grd_t (inLen_of (by simp; omega)), grd_t (inN64_of (by omega))]
      exact readAll_l1 ha hr N (i + 1) _ (by omega) (by omega) (by simp [List.range_succ])
    · rw [if_neg (by omega)]
      have : i = n := by omega
      rw [this]
theorem readAll_eq {m : Int} {f : Nat → UInt64} (hs : x.size s = some m) (hm : m ≤ 1000000000) (ha : 0 ≤ at_ ∧ at_ + n ≤ m) (hr : ∀ i, i < n → x.rd s (at_ + i) = some (f i, 0)) : block_ReadAll x at_ (n : Int) s = some ((List.range n).map f, 0) := by
  unfold block_ReadAll
  have hF := fuel_big
  generalize FUEL = N at hF ⊢
  rw [hs]; simp only [Option.bind_some]
  rw [inside_t hm (by omega)]; simp only [Option.bind_some]
  rw [if_neg (by simp), readAll_l1 (by omega) hr N 0 [] (by omega) (by omega) (by simp)]; rfl
end
end Go.Proofs
namespace Go.Proofs
open Go.VG
abbrev Dk (d n : Nat) : Dvc := Dvc.span (d : Int) 0 (n : Int)
section
variable {ns : List Nat} {K d n k : Nat} {s : ArrS} {v : UInt64}
theorem Dk.sz : (Dk d n).size s = some (n : Int) := rfl
theorem Dk.rd0 (hn : n ≤ 1000000000) (hk : k < n) : (Dk d n).rd s (k : Int) = some (rdV s d k, rdC s d k) := by
  rw [span_rd (by omega) (by omega), if_pos (by omega), Int.zero_add]
theorem Dk.wr0 (hn : n ≤ 1000000000) (hk : k < n) (hw : s.writes ≤ 1000000000) : (Dk d n).wr s (k : Int) v = some (wrR s d k, wrS s d k v) := by
  rw [span_wr (by omega) (by omega) hw, if_pos (by omega), Int.zero_add]
theorem Dk.fl0 (hw : s.writes ≤ 1000000000) : (Dk d n).fl s = some (flC s d, flS s d) := span_fl hw
theorem Dk.rd (h : ArrOk ns K s) (hdn : s.down = false) (hd : d < ns.length) (hn : ns.getD d 0 = n) (hb : n ≤ 1000000000) (hm : miss s d = false) (hk : k < n) : (Dk d n).rd s (k : Int) = some (now s d k, 0) := by
  obtain ⟨h1, h2⟩ := h.rdA hdn hd (a := k) (by rw [hn]; exact hk) hm
  rw [Dk.rd0 hb hk, h1, h2]
theorem Dk.wr (h : ArrOk ns K s) (hK : K ≤ 1000000) (hdn : s.down = false) (hd : d < ns.length) (hn : ns.getD d 0 = n) (hb : n ≤ 1000000000) (hm : miss s d = false) (hk : k < n) :
    (s.fuse ≠ 1 ∧ ∃ t, (Dk d n).wr s (k : Int) v = some (0, t) ∧ Wrote ns K s d k v t) ∨ (s.fuse = 1 ∧ ∃ t, (Dk d n).wr s (k : Int) v = some (5, t) ∧ Fell ns K s t) := by
  have hw := h.wr
  rcases h.wrA (v := v) hK hdn hd (a := k) (by rw [hn]; exact hk) hm with ⟨h1, h2, h3⟩ | ⟨h1, h2, h3⟩
  · exact .inl ⟨h1, _, by rw [Dk.wr0 hb hk (by omega), h2], h3⟩
  · exact .inr ⟨h1, _, by rw [Dk.wr0 hb hk (by omega), h2], h3⟩
theorem Dk.fl (h : ArrOk ns K s) (hK : K ≤ 1000000) (hdn : s.down = false) (hd : d < ns.length) (hm : miss s d = false) : ∃ t, (Dk d n).fl s = some (0, t) ∧ Flushed1 ns K s d t := by
  have hw := h.wr
  obtain ⟨h1, h2⟩ := h.flA hdn hd hm
  exact ⟨_, by rw [Dk.fl0 (by omega), h1], h2⟩
end
structure WroteL (ns : List Nat) (K : Nat) (s : ArrS) (d a : Nat) (l : List UInt64) (t : ArrS) : Prop where
  ok : ArrOk ns (K + l.length) t
  dn : t.down = false
  fuse : t.fuse = s.fuse - l.length
  miss : ∀ e, Go.Proofs.miss t e = Go.Proofs.miss s e
  now : ∀ e b, Go.Proofs.now t e b = if d = e ∧ a ≤ b ∧ b < a + l.length then l.getD (b - a) 0 else Go.Proofs.now s e b
  cand : ∀ e b, ¬ (d = e ∧ a ≤ b ∧ b < a + l.length) → Go.Proofs.cand t e b = Go.Proofs.cand s e b
structure FellL (ns : List Nat) (K : Nat) (s : ArrS) (d a m : Nat) (t : ArrS) : Prop where
  ok : ArrOk ns (K + m) t
  dn : t.down = true
  miss : ∀ e, Go.Proofs.miss t e = Go.Proofs.miss s e
  cand : ∀ e b, ¬ (d = e ∧ a ≤ b ∧ b < a + m) → Go.Proofs.cand t e b = Go.Proofs.cand s e b
section
variable {ns : List Nat} {K d n a : Nat} {s : ArrS}
theorem WroteL.nil (h : ArrOk ns K s) (hdn : s.down = false) : WroteL ns K s d a [] s :=
  ⟨by simpa using h, hdn, by simp, fun _ => rfl, fun e b => by rw [if_neg (fun x => by have h2 := x.2.2; rw [List.length_nil] at h2; omega)], fun _ _ _ => rfl⟩
theorem WroteL.snoc {l : List UInt64} {v : UInt64} {t u : ArrS} (h : WroteL ns K s d a l t) (hw : Wrote ns (K + l.length) t d (a + l.length) v u) : WroteL ns K s d a (l ++ [v]) u where
  ok := by rw [List.length_append]; exact hw.ok
  dn := hw.dn
  fuse := by rw [hw.fuse, h.fuse, List.length_append]; simp only [List.length_singleton]; omega
  miss e := by rw [hw.miss, h.miss]
  now e b := by
    rw [hw.now, h.now, List.length_append, List.length_singleton]
    by_cases hde : d = e
    · by_cases hb : a + l.length = b
      · rw [if_pos ⟨hde, hb⟩, if_pos ⟨hde, by omega, by omega⟩]
        have : b - a = l.length := by omega
        simp [this]
      · rw [if_neg (fun x => hb x.2)]
        by_cases hb2 : a ≤ b ∧ b < a + l.length
        · rw [if_pos ⟨hde, hb2⟩, if_pos ⟨hde, by omega, by omega⟩]
          simp [List.getD_eq_getElem?_getD, List.getElem?_append_left (show b - a < l.length by omega)]
        · rw [if_neg (fun x => hb2 x.2), if_neg (fun x => by omega)]
    · rw [if_neg (fun x => hde x.1), if_neg (fun x => hde x.1), if_neg (fun x => hde x.1)]
  cand e b hn := by
    rw [List.length_append, List.length_singleton] at hn
    rw [hw.cand, if_neg (fun x => hn ⟨x.1, by omega, by omega⟩), h.cand e b (fun x => hn ⟨x.1, by omega, by omega⟩)]
theorem WroteL.fell {l : List UInt64} {m : Nat} {t u : ArrS} (h : WroteL ns K s d a l t) (hw : Fell ns (K + l.length) t u) (hm : l.length ≤ m) : FellL ns K s d a m u where
  ok := hw.ok.mono (by omega)
  dn := hw.dn
  miss e := by rw [hw.miss, h.miss]
  cand e b hn := by rw [hw.cand, h.cand e b (fun x => hn ⟨x.1, by omega, by omega⟩)]
theorem writeAll_l1_out {l : List UInt64} (hK : K + l.length ≤ 1000000) (hd : d < ns.length) (hn : ns.getD d 0 = n) (hb : n ≤ 1000000) (hm : miss s d = false) (ha : a + l.length ≤ n) : ∀ (N i : Nat) (t : ArrS), l.length - i < N → i ≤ l.length → WroteL ns K s d a (l.take i) t →
    (s.fuse ≠ 0 ∧ s.fuse ≤ l.length ∧ ∃ u, block_WriteAll_l1 (Dk d n) (a : Int) l N t i = some (.inr (5, u)) ∧ FellL ns K s d a l.length u) ∨ (∃ u, block_WriteAll_l1 (Dk d n) (a : Int) l N t i = some (.inl u) ∧ WroteL ns K s d a l u)
  | 0, _, _, h, _, _ => absurd h (by omega)
  | N + 1, i, t, h, hi, ht => by
    have hlen : (l.take i).length = i := by simp; omega
    by_cases hlt : i < l.length
    · have hk := ht.ok
      rw [hlen] at hk
      have hfu := ht.fuse
      rw [hlen] at hfu
      have e0 : (a : Int) + ((i : Nat) : Int) = ((a + i : Nat) : Int) := by omega
      have hsnoc : l.take (i + 1) = l.take i ++ [l.getD i 0] := getD_take_snoc hlt
      rcases Dk.wr (v := l.getD i 0) hk (by omega) ht.dn hd hn (by omega) (by rw [ht.miss]; exact hm) (k := a + i) (by omega) with ⟨h1, u, h2, h3⟩ | ⟨h1, u, h2, h3⟩
      · have hw : WroteL ns K s d a (l.take (i + 1)) u := by
          rw [hsnoc]; exact ht.snoc (by rw [hlen]; exact h3)
        have e1 : block_WriteAll_l1 (Dk d n) (a : Int) l (N + 1) t i = block_WriteAll_l1 (Dk d n) (a : Int) l N u (i + 1) := by
          show block_WriteAll_l1_b _ _ _ _ _ _ = _
          unfold block_WriteAll_l1_b
          rw [if_pos (by omega), grd_t (inI64_of (by omega)), e0, h2]
          simp only [Option.bind_some]
          rw [if_neg (by simp)]
        rw [e1]
        exact writeAll_l1_out hK hd hn hb hm ha N (i + 1) u (by omega) (by omega) hw
      · refine .inl ⟨by omega, by omega, u, ?_, (ht.fell (m := l.length) (by rw [hlen]; exact h3) (by omega))⟩
        show block_WriteAll_l1_b _ _ _ _ _ _ = _
        unfold block_WriteAll_l1_b
        rw [if_pos (by omega), grd_t (inI64_of (by omega)), e0, h2]
        simp only [Option.bind_some]
        rw [if_pos (by decide)]
    · have hil : i = l.length := by omega
      refine .inr ⟨t, ?_, ?_⟩
      · show block_WriteAll_l1_b _ _ _ _ _ _ = _
        unfold block_WriteAll_l1_b
        rw [if_neg (by omega)]
      · rw [hil, List.take_length] at ht; exact ht
theorem Dk.writeAll {l : List UInt64} (h : ArrOk ns K s) (hK : K + l.length ≤ 1000000) (hdn : s.down = false) (hd : d < ns.length) (hn : ns.getD d 0 = n) (hb : n ≤ 1000000) (hm : miss s d = false) (ha : a + l.length ≤ n) :
    (∃ u, block_WriteAll (Dk d n) (a : Int) l s = some (0, u) ∧ WroteL ns K s d a l u) ∨ (s.fuse ≠ 0 ∧ s.fuse ≤ l.length ∧ ∃ u, block_WriteAll (Dk d n) (a : Int) l s = some (5, u) ∧ FellL ns K s d a l.length u) := by
  unfold block_WriteAll
  have hF := fuel_big
  generalize FUEL = N at hF ⊢
  rw [Dk.sz]; simp only [Option.bind_some]
  rw [inside_t (by omega) (by omega)]; simp only [Option.bind_some]
  rw [if_neg (by simp)]
  rcases writeAll_l1_out hK hd hn hb hm ha N 0 s (by omega) (by omega) (by simpa using WroteL.nil h hdn) with ⟨h1, h2, u, h3, h4⟩ | ⟨u, h3, h4⟩
  · exact .inr ⟨h1, h2, u, by rw [h3]; rfl, h4⟩
  · exact .inl ⟨u, by rw [h3]; rfl, h4⟩
theorem Dk.readAll {m : Nat} (h : ArrOk ns K s) (hdn : s.down = false) (hd : d < ns.length) (hn : ns.getD d 0 = n) (hb : n ≤ 1000000) (hm : miss s d = false) (ha : a + m ≤ n) :
    block_ReadAll (Dk d n) (a : Int) (m : Int) s = some ((List.range m).map fun i => now s d (a + i), 0) :=
  readAll_eq Dk.sz (by omega) (by omega) fun i hi => by
    have e0 : (a : Int) + ((i : Nat) : Int) = ((a + i : Nat) : Int) := by omega
    rw [e0]; exact Dk.rd h hdn hd hn (by omega) hm (by omega)
end
end Go.Proofs
set_option linter.unusedSimpArgs false
set_option linter.unusedVariables false
set_option maxRecDepth 20000
set_option maxHeartbeats 4000000
namespace Go.Proofs
open Go.VG
theorem bs_80_6_0_1_2_3_4_5 (v0 : Fn) (v1 : (Array Value)) (v2 : (Array Value)) (v3 : Fn) (v4 : (Array Value)) (v5 : (Array Value)) (v6 : Fn) (v7 : (Array Value)) (v8 : (Array Value)) (v9 : Fn) (v10 : (Array Value)) (v11 : (Array Value)) (v12 : Fn) (v13 : (Array Value)) (v14 : (Array Value)) (v15 : Fn) (v16 : (Array Value)) (v17 : (Array Value)) : BuildsSlice Try.prog 80 6 [(0, .func v0 v1 v2), (1, .func v3 v4 v5), (2, .func v6 v7 v8), (3, .func v9 v10 v11), (4, .func v12 v13 v14), (5, .func v15 v16 v17)] 78 [.func v0 v1 v2, .func v3 v4 v5, .func v6 v7 v8, .func v9 v10 v11, .func v12 v13 v14, .func v15 v16 v17] := fun w => by kernel_rfl
def label_Write_1 (p0 : Dvc) (s : ArrS) : Option (Int × ArrS) :=
  Option.bind (Dvc.wr p0 s (0 : Int) (0 : UInt64)) fun r2 =>
  some (r2.1, r2.2)
theorem L_label_Write_1 {W : World} {bp0 : Nat} {vp0 : IfH} {bs : Nat} {p0 : Dvc} {s : ArrS} {r : Int × ArrS} (h : label_Write_1 p0 s = some r) :
    CSpec Try.prog W 35 [ptr bp0 0] [blk bp0 44 [IfH.v vp0], DevP bs p0 vp0, Arr bs s] (fun x : Unit => .int .i64 r.1) (fun _ => True) (fun x F => blk bp0 44 [IfH.v vp0] :: DevP bs p0 vp0 :: Arr bs r.2 :: F) := by
 refine CSpec.of_body Try.func35 rfl Try.ntmps35 rfl fun F => ?_
 show CJ _ _ _ _ _ _ (_ :: _ :: _ :: F)
 unfold label_Write_1 at h
 refine sR <| oA rfl rfl <| nT <| sR <| oV (V_load rfl foc0 rfl Try.isAgg44) rfl <| RJ_pure (fun h hh => DevP_dep h (stars_perm (del1 (A := DevP bs p0 vp0)).out h hh)) fun hdp1 => ?_
 obtain ⟨r2, hr3, h⟩ := bind_e h
 refine oO <| O_callI rfl (dev_Write hr3 hdp1) rfl (Dels.cons del1 (Dels.cons del1 Dels.nil)) rfl fun _ _ => oA rfl rfl <| nT <| CJ_ret ?_
 cases h
 exact fE (res1 Try.results35 rfl) () (t2_ eR)
def label_Write_2 (p0 : Dvc) (p1_0 : UInt64) (p1_1 : UInt64) (p1_2 : UInt64) (p1_3 : UInt64) (p1_4 : UInt64) (p1_5 : UInt64) (p1_6 : UInt64) (p1_7 : UInt64) (s : ArrS) : Option (Int × ArrS) :=
  Option.bind (block_WriteAll p0 (1 : Int) ([p1_1, p1_2, p1_3, p1_4, p1_5, p1_6, p1_7]) s) fun r1 =>
  some (r1.1, r1.2)
theorem L_label_Write_2 {W : World} {bp0 : Nat} {vp0 : IfH} {bp1 : Nat} {bs : Nat} {p0 : Dvc} {p1_0 : UInt64} {p1_1 : UInt64} {p1_2 : UInt64} {p1_3 : UInt64} {p1_4 : UInt64} {p1_5 : UInt64} {p1_6 : UInt64} {p1_7 : UInt64} {s : ArrS} {r : Int × ArrS} (h : label_Write_2 p0 p1_0 p1_1 p1_2 p1_3 p1_4 p1_5 p1_6 p1_7 s = some r) :
    CSpec Try.prog W 36 [ptr bp0 0, ptr bp1 0] [blk bp0 44 [IfH.v vp0], DevP bs p0 vp0, blk bp1 62 [.int .u64 (p1_0.toNat : Int), .int .u64 (p1_1.toNat : Int), .int .u64 (p1_2.toNat : Int), .int .u64 (p1_3.toNat : Int), .int .u64 (p1_4.toNat : Int), .int .u64 (p1_5.toNat : Int), .int .u64 (p1_6.toNat : Int), .int .u64 (p1_7.toNat : Int)], Arr bs s] (fun x : Unit => .int .i64 r.1) (fun _ => True) (fun x F => blk bp0 44 [IfH.v vp0] :: DevP bs p0 vp0 :: blk bp1 62 [.int .u64 (p1_0.toNat : Int), .int .u64 (p1_1.toNat : Int), .int .u64 (p1_2.toNat : Int), .int .u64 (p1_3.toNat : Int), .int .u64 (p1_4.toNat : Int), .int .u64 (p1_5.toNat : Int), .int .u64 (p1_6.toNat : Int), .int .u64 (p1_7.toNat : Int)] :: Arr bs r.2 :: F) := by
 refine CSpec.of_body Try.func36 rfl Try.ntmps36 rfl fun F => ?_
 show CJ _ _ _ _ _ _ (_ :: _ :: _ :: _ :: F)
 unfold label_Write_2 at h
 refine sR <| oA rfl rfl <| nT <| CJ_seq <| AJ_startH 4 (by kernel_rfl) rfl <| aV 0 1 rfl rfl (GY_none rfl) eR (V_load rfl foc0 rfl Try.isAgg44) rfl <| aN 1 3 rfl rfl (P_sliceArr (l := 1) rfl ⟨_, rfl⟩ rfl Try.runUnderlying62 Try.sizeOf22) rfl ?_
 obtain ⟨r1, hr2, h⟩ := bind_e h
 refine AJ_op 2 7 rfl (by kernel_rfl) rfl (GY_none rfl) <| O_call (L_block_WriteAll (show Reads _ tyU _ [p1_1, p1_2, p1_3, p1_4, p1_5, p1_6, p1_7] from (Reads.sliceV (l := 1) (h := 8) (Reads.recast (t' := tyU) (Reads.lit (t := tyA62) (ys := [p1_0, p1_1, p1_2, p1_3, p1_4, p1_5, p1_6, p1_7]) rfl rfl (Nat.le_refl _) (Nat.le_of_ble_eq_true rfl) rfl) rfl rfl rfl) (Nat.le_of_ble_eq_true rfl) (Nat.le_of_ble_eq_true rfl))) hr2) rfl Try.call37 (Dels.cons del1 (Dels.cons del1 (Dels.cons del1 Dels.nil))) rfl fun _ _ => ⟨fun h => absurd h (by decide), ?_⟩
 refine aN 3 15 rfl rfl (P_assign rfl) rfl <| aD <| CJ_ret ?_
 cases h
 exact fE (res1 Try.results36 rfl) () (t3_ eR)
def label_Write_3 (p0 : Dvc) (p1_0 : UInt64) (p1_1 : UInt64) (p1_2 : UInt64) (p1_3 : UInt64) (p1_4 : UInt64) (p1_5 : UInt64) (p1_6 : UInt64) (p1_7 : UInt64) (s : ArrS) : Option (Int × ArrS) :=
  Option.bind (Dvc.wr p0 s (0 : Int) p1_0) fun r2 =>
  some (r2.1, r2.2)
theorem L_label_Write_3 {W : World} {bp0 : Nat} {vp0 : IfH} {bp1 : Nat} {bs : Nat} {p0 : Dvc} {p1_0 : UInt64} {p1_1 : UInt64} {p1_2 : UInt64} {p1_3 : UInt64} {p1_4 : UInt64} {p1_5 : UInt64} {p1_6 : UInt64} {p1_7 : UInt64} {s : ArrS} {r : Int × ArrS} (h : label_Write_3 p0 p1_0 p1_1 p1_2 p1_3 p1_4 p1_5 p1_6 p1_7 s = some r) :
    CSpec Try.prog W 38 [ptr bp0 0, ptr bp1 0] [blk bp0 44 [IfH.v vp0], DevP bs p0 vp0, blk bp1 62 [.int .u64 (p1_0.toNat : Int), .int .u64 (p1_1.toNat : Int), .int .u64 (p1_2.toNat : Int), .int .u64 (p1_3.toNat : Int), .int .u64 (p1_4.toNat : Int), .int .u64 (p1_5.toNat : Int), .int .u64 (p1_6.toNat : Int), .int .u64 (p1_7.toNat : Int)], Arr bs s] (fun x : Unit => .int .i64 r.1) (fun _ => True) (fun x F => blk bp0 44 [IfH.v vp0] :: DevP bs p0 vp0 :: blk bp1 62 [.int .u64 (p1_0.toNat : Int), .int .u64 (p1_1.toNat : Int), .int .u64 (p1_2.toNat : Int), .int .u64 (p1_3.toNat : Int), .int .u64 (p1_4.toNat : Int), .int .u64 (p1_5.toNat : Int), .int .u64 (p1_6.toNat : Int), .int .u64 (p1_7.toNat : Int)] :: Arr bs r.2 :: F) := by
 refine CSpec.of_body Try.func38 rfl Try.ntmps38 rfl fun F => ?_
 show CJ _ _ _ _ _ _ (_ :: _ :: _ :: _ :: F)
 unfold label_Write_3 at h
 refine sR <| oA rfl rfl <| nT <| sR <| oV (V_load rfl foc0 rfl Try.isAgg44) rfl <| oP (P_indexArr (i := 0) rfl rfl rfl Try.runUnderlying62 Try.sizeOf22) rfl <| oV (V_load rfl foc2 rfl Try.isAgg22) rfl <| RJ_pure (fun h hh => DevP_dep h (stars_perm (del1 (A := DevP bs p0 vp0)).out h hh)) fun hdp1 => ?_
 obtain ⟨r2, hr3, h⟩ := bind_e h
 refine oO <| O_callI rfl (dev_Write hr3 hdp1) rfl (Dels.cons del1 (Dels.cons del2 Dels.nil)) rfl fun _ _ => oA rfl rfl <| nT <| CJ_ret ?_
 cases h
 exact fE (res1 Try.results38 rfl) () (t2_ (t0_ (t1_ eR)))
def label_Write (x_0 : Dvc) (l : api_Label) (s : ArrS) : Option (Int × ArrS) :=
  Option.bind (label_Check (⟨l.ID, l.Size, l.Start, l.Area, l.Group⟩ : api_Label)) fun r3 =>
  if (r3 ≠ (0 : Int)) then
    some (r3, s)
  else
    Option.bind (Dvc.size x_0 s) fun r6 =>
    if (r6 < l.Size) then
      some (((3 : Int), s))
    else
      Option.bind (label_pack (⟨l.ID, l.Size, l.Start, l.Area, l.Group⟩ : api_Label)) fun r8 =>
      Option.bind (label_Write_1 x_0 s) fun r12 =>
      if (r12.1 ≠ (0 : Int)) then
        some (r12.1, r12.2)
      else
        Option.bind (Dvc.fl x_0 r12.2) fun r15 =>
        if (r15.1 ≠ (0 : Int)) then
          some (r15.1, r15.2)
        else
          Option.bind (label_Write_2 x_0 r8.e0 r8.e1 r8.e2 r8.e3 r8.e4 r8.e5 r8.e6 r8.e7 r15.2) fun r17 =>
          if (r17.1 ≠ (0 : Int)) then
            some (r17.1, r17.2)
          else
            Option.bind (Dvc.fl x_0 r17.2) fun r20 =>
            if (r20.1 ≠ (0 : Int)) then
              some (r20.1, r20.2)
            else
              Option.bind (label_Write_3 x_0 r8.e0 r8.e1 r8.e2 r8.e3 r8.e4 r8.e5 r8.e6 r8.e7 r20.2) fun r22 =>
              if (r22.1 ≠ (0 : Int)) then
                some (r22.1, r22.2)
              else
                Option.bind (Dvc.fl x_0 r22.2) fun r25 =>
                if (r25.1 ≠ (0 : Int)) then
                  some (r25.1, r25.2)
                else
                  some (((0 : Int), r25.2))
theorem L_label_Write {W : World} {vx_0 : IfH} {bs : Nat} {x_0 : Dvc} {l : api_Label} {s : ArrS} {r : Int × ArrS} (h : label_Write x_0 l s = some r) :
    CSpec Try.prog W 21 [IfH.v vx_0, .agg #[.int .u64 (l.ID.toNat : Int), .int .i64 l.Size, .int .i64 l.Start, .int .i64 l.Area, .int .u64 (l.Group.toNat : Int)]] [DevP bs x_0 vx_0, Arr bs s] (fun x : Unit => .int .i64 r.1) (fun _ => True) (fun x F => DevP bs x_0 vx_0 :: Arr bs r.2 :: F) := by
 refine CSpec.of_body Try.func21 rfl Try.ntmps21 rfl fun F => ?_
 show CJ _ _ _ _ _ _ (_ :: _ :: F)
 unfold label_Write at h
 refine sR <| oO <| O_box rfl rfl rfl fun b1 => oO <| O_box rfl rfl rfl fun b2 => oA rfl rfl <| nT <| CJ_seq <| sR <| oV (V_loadN rfl foc0 Try.isAgg24 Try.sizeOf24 rfl rfl) rfl ?_
 obtain ⟨r3, hr4, h⟩ := bind_e h
 refine oO <| O_call (L_label_Check hr4) rfl Try.call12 Dels.nil rfl fun _ _ => oA rfl rfl <| nT <| sR <| oM rfl rfl <| oP (P_neq (a := r3) (b := (0 : Int)) rfl rfl) rfl <| nT <| CJ_condP rfl bT_dec (fun hg1 => ?_) (fun hg1 => ?_)
 ·
  replace h := ite_t hg1 h
  refine sR <| oM rfl rfl <| oA rfl rfl <| nT <| CJ_ret <| QJ_then_ret ?_
  cases h
  exact fE (res1 Try.results21 rfl) () (t2_ (t2_ (eD (eD eR))))
 ·
  replace h := ite_f hg1 h
  refine kT <| CJ_seq <| CJ_seq <| AJ_startH 0 (by kernel_rfl) rfl <| aV 0 1 rfl rfl (GY_none rfl) eR (V_load rfl foc1 rfl Try.isAgg44) rfl <| aN 2 5 rfl rfl (P_fieldAddr rfl ⟨_, _, _, Try.runUnderlying24, rfl, rfl, Try.sizeOf3, rfl⟩) rfl <| aV 3 13 rfl rfl (GY_none rfl) eR (V_load rfl foc0 rfl Try.isAgg3) rfl <| AJ_pure (fun h hh => DevP_dep h (stars_perm (del2 (A := DevP bs x_0 vx_0)).out h hh)) fun hdp5 => ?_
  obtain ⟨r6, hr7, h⟩ := bind_e h
  refine AJ_op 1 15 rfl (by kernel_rfl) rfl (GY_none rfl) <| O_callI rfl (dev_Size hr7 hdp5) rfl (Dels.cons del2 (Dels.cons del2 Dels.nil)) rfl fun _ _ => ⟨fun _ => (t2_ (t2_ eR)), ?_⟩
  refine aN 4 31 rfl rfl (P_lss (a := r6) (b := l.Size) rfl rfl) rfl <| aD <| CJ_condP rfl bT_dec (fun hg2 => ?_) (fun hg2 => ?_)
  ·
   replace h := ite_t hg2 h
   refine sR <| oA rfl rfl <| nT <| CJ_ret <| QJ_then_ret ?_
   cases h
   exact fE (res1 Try.results21 rfl) () (t0_ (t0_ (eD (eD eR))))
  ·
   replace h := ite_f hg2 h
   refine kT <| sR <| oV (V_loadN rfl foc2 Try.isAgg24 Try.sizeOf24 rfl rfl) rfl ?_
   obtain ⟨r8, hr9, h⟩ := bind_e h
   refine oO <| O_call (L_label_pack hr9) rfl Try.call29 Dels.nil rfl fun _ _ => oO <| O_alloc Try.zeroValue62 rfl rfl fun b10 => oO <| O_storeN rfl rfl foc0 Try.sizeOf62 rfl rfl rfl <| nT <| CJ_seq <| AJ_startH 4096 (by kernel_rfl) rfl <| aN 0 1 rfl rfl (P_makeFunc rfl rfl) rfl <| aV 1 3 rfl rfl (GY_none rfl) eR (V_load rfl foc4 rfl Try.isAgg44) rfl <| aN 2 7 rfl rfl (P_nilCheckI rfl) rfl <| aN 3 15 rfl rfl (P_makeFunc rfl rfl) rfl <| aN 4 31 rfl rfl (P_makeFunc rfl rfl) rfl <| aV 5 63 rfl rfl (GY_none rfl) eR (V_load rfl foc4 rfl Try.isAgg44) rfl <| aN 6 127 rfl rfl (P_nilCheckI rfl) rfl <| aN 7 255 rfl rfl (P_makeFunc rfl rfl) rfl <| aN 8 511 rfl rfl (P_makeFunc rfl rfl) rfl <| aV 9 1023 rfl rfl (GY_none rfl) eR (V_load rfl foc4 rfl Try.isAgg44) rfl <| aN 10 2047 rfl rfl (P_nilCheckI rfl) rfl <| aN 11 4095 rfl rfl (P_makeFunc rfl rfl) rfl <| AJ_op 12 8191 rfl (by kernel_rfl) rfl (GY_none rfl) <| O_buildSlice rfl (bs_80_6_0_1_2_3_4_5 _ _ _ _ _ _ _ _ _ _ _ _ _ _ _ _ _ _) rfl fun b11 => ⟨fun h => absurd h (by decide), ?_⟩
   refine aN 13 16383 rfl rfl (P_assign rfl) rfl <| aD <| CJ_seq <| sR <| oM rfl rfl <| oP (P_lenNil rfl Try.runUnderlying80) rfl <| oM rfl rfl <| nT <| CJ_block <| CJ_unroll <| sR <| oP (PJ_eq (P_lss (a := (0 : Int)) (b := (6 : Int)) rfl rfl) (by rfl)) rfl <| nT <| CJ_seq <| CJ_condT rfl rfl <| kT <| CJ_seq <| CJ_block <| sR <| oP (P_indexLit (i := 0) rfl rfl rfl Try.runUnderlying80 Try.sizeOf78) rfl <| oV (V_load rfl foc0 rfl Try.isAgg78) rfl <| oA rfl rfl <| nT <| sR <| oM rfl rfl ?_
   obtain ⟨r12, hr13, h⟩ := bind_e h
   refine oO <| O_callV rfl rfl (L_label_Write_1 hr13) Try.call35 (Dels.cons del5 (Dels.cons del2 (Dels.cons del2 Dels.nil))) rfl fun _ _ => oA rfl rfl <| nT <| sR <| oM rfl rfl <| oP (P_neq (a := r12.1) (b := (0 : Int)) rfl rfl) rfl <| nT <| CJ_condP rfl bT_dec (fun hg3 => ?_) (fun hg3 => ?_)
   ·
    replace h := ite_t hg3 h
    refine sR <| oM rfl rfl <| oA rfl rfl <| nT <| CJ_ret <| QJ_block_ret <| QJ_then_ret <| QJ_then_ret <| QJ_block_ret <| QJ_then_ret ?_
    cases h
    exact fE (res1 Try.results21 rfl) () (t1_ (t1_ (eD (eD (eD (eD eR))))))
   ·
    replace h := ite_f hg3 h
    refine CJ_skip <| QJ_block_normal <| QJ_then <| CJ_region <| oP (PJ_eq (P_add (a := (0 : Int)) (b := (1 : Int)) rfl rfl (by decide)) (by rfl)) rfl <| oM rfl rfl <| RJ_nil <| QJ_again <| sR <| oP (PJ_eq (P_lss (a := (1 : Int)) (b := (6 : Int)) rfl rfl) (by rfl)) rfl <| nT <| CJ_seq <| CJ_condT rfl rfl <| kT <| CJ_seq <| CJ_block <| sR <| oP (P_indexLit (i := 1) rfl rfl rfl Try.runUnderlying80 Try.sizeOf78) rfl <| oV (V_load rfl foc3 rfl Try.isAgg78) rfl <| oA rfl rfl <| nT <| sR <| oM rfl rfl <| RJ_pure (fun h hh => DevP_dep h (stars_perm (del1 (A := DevP bs x_0 vx_0)).out h hh)) fun hdp14 => ?_
    obtain ⟨r15, hr16, h⟩ := bind_e h
    refine oO <| O_callM rfl (dev_Flush hr16 hdp14) rfl (Dels.cons del1 (Dels.cons del1 Dels.nil)) rfl fun _ _ => oA rfl rfl <| nT <| sR <| oM rfl rfl <| oP (P_neq (a := r15.1) (b := (0 : Int)) rfl rfl) rfl <| nT <| CJ_condP rfl bT_dec (fun hg4 => ?_) (fun hg4 => ?_)
    ·
     replace h := ite_t hg4 h
     refine sR <| oM rfl rfl <| oA rfl rfl <| nT <| CJ_ret <| QJ_block_ret <| QJ_then_ret <| QJ_then_ret <| QJ_block_ret <| QJ_then_ret ?_
     cases h
     exact fE (res1 Try.results21 rfl) () (t0_ (t0_ (eD (eD (eD (eD eR))))))
    ·
     replace h := ite_f hg4 h
     refine CJ_skip <| QJ_block_normal <| QJ_then <| CJ_region <| oP (PJ_eq (P_add (a := (1 : Int)) (b := (1 : Int)) rfl rfl (by decide)) (by rfl)) rfl <| oM rfl rfl <| RJ_nil <| QJ_again <| sR <| oP (PJ_eq (P_lss (a := (2 : Int)) (b := (6 : Int)) rfl rfl) (by rfl)) rfl <| nT <| CJ_seq <| CJ_condT rfl rfl <| kT <| CJ_seq <| CJ_block <| sR <| oP (P_indexLit (i := 2) rfl rfl rfl Try.runUnderlying80 Try.sizeOf78) rfl <| oV (V_load rfl foc3 rfl Try.isAgg78) rfl <| oA rfl rfl <| nT <| sR <| oM rfl rfl ?_
     obtain ⟨r17, hr18, h⟩ := bind_e h
     refine oO <| O_callV rfl rfl (L_label_Write_2 hr18) Try.call36 (Dels.cons del2 (Dels.cons del0 (Dels.cons del2 (Dels.cons del0 Dels.nil)))) rfl fun _ _ => oA rfl rfl <| nT <| sR <| oM rfl rfl <| oP (P_neq (a := r17.1) (b := (0 : Int)) rfl rfl) rfl <| nT <| CJ_condP rfl bT_dec (fun hg5 => ?_) (fun hg5 => ?_)
     ·
      replace h := ite_t hg5 h
      refine sR <| oM rfl rfl <| oA rfl rfl <| nT <| CJ_ret <| QJ_block_ret <| QJ_then_ret <| QJ_then_ret <| QJ_block_ret <| QJ_then_ret ?_
      cases h
      exact fE (res1 Try.results21 rfl) () (t1_ (t2_ (eD (eD (eD (eD eR))))))
     ·
      replace h := ite_f hg5 h
      refine CJ_skip <| QJ_block_normal <| QJ_then <| CJ_region <| oP (PJ_eq (P_add (a := (2 : Int)) (b := (1 : Int)) rfl rfl (by decide)) (by rfl)) rfl <| oM rfl rfl <| RJ_nil <| QJ_again <| sR <| oP (PJ_eq (P_lss (a := (3 : Int)) (b := (6 : Int)) rfl rfl) (by rfl)) rfl <| nT <| CJ_seq <| CJ_condT rfl rfl <| kT <| CJ_seq <| CJ_block <| sR <| oP (P_indexLit (i := 3) rfl rfl rfl Try.runUnderlying80 Try.sizeOf78) rfl <| oV (V_load rfl foc4 rfl Try.isAgg78) rfl <| oA rfl rfl <| nT <| sR <| oM rfl rfl <| RJ_pure (fun h hh => DevP_dep h (stars_perm (del1 (A := DevP bs x_0 vx_0)).out h hh)) fun hdp19 => ?_
      obtain ⟨r20, hr21, h⟩ := bind_e h
      refine oO <| O_callM rfl (dev_Flush hr21 hdp19) rfl (Dels.cons del1 (Dels.cons del2 Dels.nil)) rfl fun _ _ => oA rfl rfl <| nT <| sR <| oM rfl rfl <| oP (P_neq (a := r20.1) (b := (0 : Int)) rfl rfl) rfl <| nT <| CJ_condP rfl bT_dec (fun hg6 => ?_) (fun hg6 => ?_)
      ·
       replace h := ite_t hg6 h
       refine sR <| oM rfl rfl <| oA rfl rfl <| nT <| CJ_ret <| QJ_block_ret <| QJ_then_ret <| QJ_then_ret <| QJ_block_ret <| QJ_then_ret ?_
       cases h
       exact fE (res1 Try.results21 rfl) () (t0_ (t0_ (eD (eD (eD (eD eR))))))
      ·
       replace h := ite_f hg6 h
       refine CJ_skip <| QJ_block_normal <| QJ_then <| CJ_region <| oP (PJ_eq (P_add (a := (3 : Int)) (b := (1 : Int)) rfl rfl (by decide)) (by rfl)) rfl <| oM rfl rfl <| RJ_nil <| QJ_again <| sR <| oP (PJ_eq (P_lss (a := (4 : Int)) (b := (6 : Int)) rfl rfl) (by rfl)) rfl <| nT <| CJ_seq <| CJ_condT rfl rfl <| kT <| CJ_seq <| CJ_block <| sR <| oP (P_indexLit (i := 4) rfl rfl rfl Try.runUnderlying80 Try.sizeOf78) rfl <| oV (V_load rfl foc4 rfl Try.isAgg78) rfl <| oA rfl rfl <| nT <| sR <| oM rfl rfl ?_
       obtain ⟨r22, hr23, h⟩ := bind_e h
       refine oO <| O_callV rfl rfl (L_label_Write_3 hr23) Try.call38 (Dels.cons del2 (Dels.cons del0 (Dels.cons del1 (Dels.cons del0 Dels.nil)))) rfl fun _ _ => oA rfl rfl <| nT <| sR <| oM rfl rfl <| oP (P_neq (a := r22.1) (b := (0 : Int)) rfl rfl) rfl <| nT <| CJ_condP rfl bT_dec (fun hg7 => ?_) (fun hg7 => ?_)
       ·
        replace h := ite_t hg7 h
        refine sR <| oM rfl rfl <| oA rfl rfl <| nT <| CJ_ret <| QJ_block_ret <| QJ_then_ret <| QJ_then_ret <| QJ_block_ret <| QJ_then_ret ?_
        cases h
        exact fE (res1 Try.results21 rfl) () (t1_ (t2_ (eD (eD (eD (eD eR))))))
       ·
        replace h := ite_f hg7 h
        refine CJ_skip <| QJ_block_normal <| QJ_then <| CJ_region <| oP (PJ_eq (P_add (a := (4 : Int)) (b := (1 : Int)) rfl rfl (by decide)) (by rfl)) rfl <| oM rfl rfl <| RJ_nil <| QJ_again <| sR <| oP (PJ_eq (P_lss (a := (5 : Int)) (b := (6 : Int)) rfl rfl) (by rfl)) rfl <| nT <| CJ_seq <| CJ_condT rfl rfl <| kT <| CJ_seq <| CJ_block <| sR <| oP (P_indexLit (i := 5) rfl rfl rfl Try.runUnderlying80 Try.sizeOf78) rfl <| oV (V_load rfl foc4 rfl Try.isAgg78) rfl <| oA rfl rfl <| nT <| sR <| oM rfl rfl <| RJ_pure (fun h hh => DevP_dep h (stars_perm (del1 (A := DevP bs x_0 vx_0)).out h hh)) fun hdp24 => ?_
        obtain ⟨r25, hr26, h⟩ := bind_e h
        refine oO <| O_callM rfl (dev_Flush hr26 hdp24) rfl (Dels.cons del1 (Dels.cons del2 Dels.nil)) rfl fun _ _ => oA rfl rfl <| nT <| sR <| oM rfl rfl <| oP (P_neq (a := r25.1) (b := (0 : Int)) rfl rfl) rfl <| nT <| CJ_condP rfl bT_dec (fun hg8 => ?_) (fun hg8 => ?_)
        ·
         replace h := ite_t hg8 h
         refine sR <| oM rfl rfl <| oA rfl rfl <| nT <| CJ_ret <| QJ_block_ret <| QJ_then_ret <| QJ_then_ret <| QJ_block_ret <| QJ_then_ret ?_
         cases h
         exact fE (res1 Try.results21 rfl) () (t0_ (t0_ (eD (eD (eD (eD eR))))))
        ·
         replace h := ite_f hg8 h
         refine CJ_skip <| QJ_block_normal <| QJ_then <| CJ_region <| oP (PJ_eq (P_add (a := (5 : Int)) (b := (1 : Int)) rfl rfl (by decide)) (by rfl)) rfl <| oM rfl rfl <| RJ_nil <| QJ_again <| sR <| oP (PJ_eq (P_lss (a := (6 : Int)) (b := (6 : Int)) rfl rfl) (by rfl)) rfl <| nT <| CJ_seq <| CJ_condF rfl rfl <| CJ_exit <| QJ_then_exit <| QJ_then_exit <| QJ_block_here <| QJ_then <| sR <| oA rfl rfl <| nT <| CJ_ret ?_
         cases h
         exact fE (res1 Try.results21 rfl) () (t0_ (t0_ (eD (eD (eD (eD eR))))))
def label_Read (x_0 : Dvc) (s : ArrS) : Option (api_Label × Int) :=
  Option.bind (Dvc.size x_0 s) fun r3 =>
  if (r3 < (8 : Int)) then
    some (((⟨(0 : UInt64), (0 : Int), (0 : Int), (0 : Int), (0 : UInt64)⟩ : api_Label), (3 : Int)))
  else
    Option.bind (block_ReadAll x_0 (0 : Int) (8 : Int) s) fun r5 =>
    if (r5.2 ≠ (0 : Int)) then
      some (((⟨(0 : UInt64), (0 : Int), (0 : Int), (0 : Int), (0 : UInt64)⟩ : api_Label), r5.2))
    else
      Option.bind (label_FromWords r5.1) fun r9 =>
      if (r9.2 ≠ (0 : Int)) then
        some (((⟨(0 : UInt64), (0 : Int), (0 : Int), (0 : Int), (0 : UInt64)⟩ : api_Label), r9.2))
      else
        Option.bind (Dvc.size x_0 s) fun r13 =>
        if (r13 < r9.1.Size) then
          some (((⟨(0 : UInt64), (0 : Int), (0 : Int), (0 : Int), (0 : UInt64)⟩ : api_Label), (3 : Int)))
        else
          some ((r9.1, (0 : Int)))
theorem L_label_Read {W : World} {vx_0 : IfH} {bs : Nat} {x_0 : Dvc} {s : ArrS} {r : api_Label × Int} (h : label_Read x_0 s = some r) :
    CSpec Try.prog W 24 [IfH.v vx_0] [DevP bs x_0 vx_0, Arr bs s] (fun x : Unit => .tuple #[.agg #[.int .u64 (r.1.ID.toNat : Int), .int .i64 r.1.Size, .int .i64 r.1.Start, .int .i64 r.1.Area, .int .u64 (r.1.Group.toNat : Int)], .int .i64 r.2]) (fun _ => True) (fun x F => DevP bs x_0 vx_0 :: Arr bs s :: F) := by
 refine CSpec.of_body Try.func24 rfl Try.ntmps24 rfl fun F => ?_
 show CJ _ _ _ _ _ _ (_ :: _ :: F)
 unfold label_Read at h
 refine sR <| oO <| O_alloc Try.zeroValue24 rfl rfl fun b1 => oA rfl rfl <| nT <| CJ_seq <| sR <| oM rfl rfl <| RJ_pure (fun h hh => DevP_dep h (stars_perm (del1 (A := DevP bs x_0 vx_0)).out h hh)) fun hdp2 => ?_
 obtain ⟨r3, hr4, h⟩ := bind_e h
 refine oO <| O_callI rfl (dev_Size hr4 hdp2) rfl (Dels.cons del1 (Dels.cons del1 Dels.nil)) rfl fun _ _ => oP (P_lss (a := r3) (b := (8 : Int)) rfl rfl) rfl <| nT <| CJ_condP rfl bT_dec (fun hg1 => ?_) (fun hg1 => ?_)
 ·
  replace h := ite_t hg1 h
  refine sR <| oP (P_build rfl (bld_24)) rfl <| oO <| O_storeN rfl rfl foc2 Try.sizeOf24 rfl rfl rfl <| oA rfl rfl <| nT <| CJ_ret <| QJ_then_ret ?_
  cases h
  exact fE (resA2 Try.results24 (RV_cellN rfl foc2 Try.isAgg24 Try.sizeOf24 rfl rfl) (RV_tmp rfl)) () (t0_ (t0_ (eD eR)))
 ·
  replace h := ite_f hg1 h
  refine kT <| sR <| oM rfl rfl ?_
  obtain ⟨r5, hr6, h⟩ := bind_e h
  refine oO <| O_call (L_block_ReadAll hr6) rfl Try.call39 (Dels.cons del0 (Dels.cons del0 Dels.nil)) rfl fun X7 _ => oM rfl rfl <| oP (P_extract (v := X7.v) rfl rfl) rfl <| oP (P_extract rfl rfl) rfl <| oA rfl rfl <| oA rfl rfl <| nT <| CJ_seq <| sR <| oM rfl rfl <| oP (P_neq (a := r5.2) (b := (0 : Int)) rfl rfl) rfl <| nT <| CJ_condP rfl bT_dec (fun hg2 => ?_) (fun hg2 => ?_)
  ·
   replace h := ite_t hg2 h
   refine sR <| oP (P_build rfl (bld_24)) rfl <| oM rfl rfl <| oO <| O_storeN rfl rfl foc3 Try.sizeOf24 rfl rfl rfl <| oA rfl rfl <| nT <| CJ_ret <| QJ_then_ret ?_
   cases h
   exact fE (resA2 Try.results24 (RV_cellN rfl foc3 Try.isAgg24 Try.sizeOf24 rfl rfl) (RV_tmp rfl)) () (t0_ (t0_ (eD (eD eR))))
  ·
   replace h := ite_f hg2 h
   refine kT <| sR <| oM rfl rfl ?_
   obtain ⟨r9, hr10, h⟩ := bind_e h
   refine oO <| O_call (L_label_FromWords (Reads.sl _ _ _) hr10) rfl Try.call10 (Dels.cons del2 Dels.nil) rfl fun _ _ => oM rfl rfl <| oP (P_extract rfl rfl) rfl <| oP (P_extract rfl rfl) rfl <| oO <| O_alloc Try.zeroValue24 rfl rfl fun b11 => oO <| O_storeN rfl rfl foc0 Try.sizeOf24 rfl rfl rfl <| oA rfl rfl <| nT <| CJ_seq <| sR <| oM rfl rfl <| oP (P_neq (a := r9.2) (b := (0 : Int)) rfl rfl) rfl <| nT <| CJ_condP rfl bT_dec (fun hg3 => ?_) (fun hg3 => ?_)
   ·
    replace h := ite_t hg3 h
    refine sR <| oP (P_build rfl (bld_24)) rfl <| oM rfl rfl <| oO <| O_storeN rfl rfl foc4 Try.sizeOf24 rfl rfl rfl <| oA rfl rfl <| nT <| CJ_ret <| QJ_then_ret ?_
    cases h
    exact fE (resA2 Try.results24 (RV_cellN rfl foc4 Try.isAgg24 Try.sizeOf24 rfl rfl) (RV_tmp rfl)) () (t2_ (t2_ (eD (eD (eD eR)))))
   ·
    replace h := ite_f hg3 h
    refine kT <| CJ_seq <| CJ_seq <| AJ_startH 0 (by kernel_rfl) rfl <| aN 0 1 rfl rfl (P_move rfl) rfl <| aN 2 5 rfl rfl (P_fieldAddr rfl ⟨_, _, _, Try.runUnderlying24, rfl, rfl, Try.sizeOf3, rfl⟩) rfl <| aV 3 13 rfl rfl (GY_none rfl) eR (V_load rfl foc0 rfl Try.isAgg3) rfl <| AJ_pure (fun h hh => DevP_dep h (stars_perm (del2 (A := DevP bs x_0 vx_0)).out h hh)) fun hdp12 => ?_
    obtain ⟨r13, hr14, h⟩ := bind_e h
    refine AJ_op 1 15 rfl (by kernel_rfl) rfl (GY_none rfl) <| O_callI rfl (dev_Size hr14 hdp12) rfl (Dels.cons del2 (Dels.cons del2 Dels.nil)) rfl fun _ _ => ⟨fun _ => (t2_ (t2_ eR)), ?_⟩
    refine aN 4 31 rfl rfl (P_lss (a := r13) (b := r9.1.Size) rfl rfl) rfl <| aD <| CJ_condP rfl bT_dec (fun hg4 => ?_) (fun hg4 => ?_)
    ·
     replace h := ite_t hg4 h
     refine sR <| oP (P_build rfl (bld_24)) rfl <| oO <| O_storeN rfl rfl foc4 Try.sizeOf24 rfl rfl rfl <| oA rfl rfl <| nT <| CJ_ret <| QJ_then_ret ?_
     cases h
     exact fE (resA2 Try.results24 (RV_cellN rfl foc4 Try.isAgg24 Try.sizeOf24 rfl rfl) (RV_tmp rfl)) () (t0_ (t0_ (eD (eD (eD eR)))))
    ·
     replace h := ite_f hg4 h
     refine kT <| sR <| oV (V_loadN rfl foc2 Try.isAgg24 Try.sizeOf24 rfl rfl) rfl <| oO <| O_storeN rfl rfl foc4 Try.sizeOf24 rfl rfl rfl <| oA rfl rfl <| nT <| CJ_ret ?_
     cases h
     exact fE (resA2 Try.results24 (RV_cellN rfl foc4 Try.isAgg24 Try.sizeOf24 rfl rfl) (RV_tmp rfl)) () (t0_ (t0_ (eD (eD (eD eR)))))
end Go.Proofs
set_option linter.unusedSimpArgs false
set_option linter.unusedVariables false
set_option maxRecDepth 20000
set_option maxHeartbeats 4000000
namespace Go.Proofs
open Go.VG
theorem bs_37_1_0 (v0 : (Option Addr)) (v1 : Nat) (v2 : Nat) : BuildsSlice Try.prog 37 1 [(0, .slice v0 v1 v2)] 27 [.slice v0 v1 v2] := fun w => by kernel_rfl
theorem eqs_24 : EqsAt Try.prog 24 (fun x => .agg ((tyapi_Label).enc x).toArray) := eqs_struct (enc := (tyapi_Label).enc) (by kernel_rfl) (by kernel_rfl) (fun x y => [((x.ID.toNat : Int) == (y.ID.toNat : Int)), (x.Size == y.Size), (x.Start == y.Start), (x.Area == y.Area), ((x.Group.toNat : Int) == (y.Group.toNat : Int))]) (fun x y => ⟨by decide, ⟨.int .u64 (x.ID.toNat : Int), .int .u64 (y.ID.toNat : Int), fun _ => by kernel_rfl, fun _ => by kernel_rfl, fun w => run_equalIn_int w 9998 22 _ _ _ _ Try.underlying22⟩, ⟨by decide, ⟨.int .i64 x.Size, .int .i64 y.Size, fun _ => by kernel_rfl, fun _ => by kernel_rfl, fun w => run_equalIn_int w 9998 3 _ _ _ _ Try.underlying3⟩, ⟨by decide, ⟨.int .i64 x.Start, .int .i64 y.Start, fun _ => by kernel_rfl, fun _ => by kernel_rfl, fun w => run_equalIn_int w 9998 3 _ _ _ _ Try.underlying3⟩, ⟨by decide, ⟨.int .i64 x.Area, .int .i64 y.Area, fun _ => by kernel_rfl, fun _ => by kernel_rfl, fun w => run_equalIn_int w 9998 3 _ _ _ _ Try.underlying3⟩, ⟨by decide, ⟨.int .u64 (x.Group.toNat : Int), .int .u64 (y.Group.toNat : Int), fun _ => by kernel_rfl, fun _ => by kernel_rfl, fun w => run_equalIn_int w 9998 22 _ _ _ _ Try.underlying22⟩, trivial⟩⟩⟩⟩⟩) (fun x y => by
  rw [Bool.eq_iff_iff]
  simp only [u64_ibeq, List.all_cons, List.all_nil, id, Bool.and_true, Bool.and_eq_true, decide_eq_true_eq, beq_iff_eq, api_Label.ext_iff])
def volumegrouplaw11_awake : Option (Bool) :=
  Option.bind (volumegroupmake_Loaded (([(List.replicate 20 0)] : List (List UInt64)))) fun r4 =>
  Option.elim r4 (
    some false) fun o9 =>
  Option.bind (volumegroupmake_Spans o9) fun r10 =>
  if (((r10.length : Nat) : Int) ≠ (1 : Int)) then
    some false
  else
    Option.bind (volumegrouplaw11_sample (7 : UInt64)) fun r17 =>
    Option.bind (label_Write (r10.getD 0 dv0) r17 o9) fun r19 =>
    if (r19.1 ≠ (0 : Int)) then
      some false
    else
      Option.bind (label_Read (r10.getD 0 dv0) r19.2) fun r22 =>
      if (r22.2 = (0 : Int)) then
        Option.bind (volumegrouplaw11_sample (7 : UInt64)) fun r25 =>
        some ((decide (r22.1 = r25)))
      else
        some false
theorem L_volumegrouplaw11_awake {W : World} {r : Bool} (h : volumegrouplaw11_awake = some r) :
    CSpec Try.prog W 8 [] [] (fun x : Unit => .bool r) (fun _ => True) (fun x F => F) := by
 refine CSpec.of_body Try.func8 rfl Try.ntmps8 rfl fun F => ?_
 show CJ _ _ _ _ _ _ (F)
 unfold volumegrouplaw11_awake at h
 refine sR <| oA rfl rfl <| nT <| sR <| oO <| O_make (t := tyU) (m := 20) (x0 := 0) (z := _) (bytes := _) rfl rfl rfl rfl Try.underlying27 ⟨Try.t22, by kernel_rfl, rfl, rfl, rfl⟩ rfl (by omega) (by decide) rfl fun b1 => oO <| O_buildSlice rfl (bs_37_1_0 _ _ _) rfl fun b2 => RJ_ent (Ent.trans (t0_ eR) (sl_of_lit (t := tyRow) (m := 1) [(⟨some ⟨b1, 0, none⟩, 20, 20⟩ : Sl3)] rfl rfl rfl (by decide))) <| RJ_ent (Ent.starI (l := [sl tyU (.slice (some ⟨b1, 0, none⟩) 20 20) (List.replicate 20 0)]) (t1_ eR)) ?_
 obtain ⟨r4, hr5, h⟩ := bind_e h
 refine oO <| O_call (L_volumegroupmake_Loaded (Reads.sl _ _ _) (RowsR.cons (Reads.sl _ _ _) RowsR.nil) hr5) rfl Try.call16 (Dels.cons del1 (Dels.cons del0 Dels.nil)) rfl fun X6 _ => RJ_ent (Ent.trans (t1_ eR) (Ent.starE (l := [sl tyU (.slice (some ⟨b1, 0, none⟩) 20 20) (List.replicate 20 0)]) eR)) <| oA rfl rfl <| nT <| CJ_seq <| sR <| oM rfl rfl ?_
 rcases opt_e h with ⟨ht8, h⟩ | ⟨o9, ht8, h⟩
 ·
  rw [ht8]
  refine RJ_ent (t0_ (t0_ (eD eR))) <| oP (P_eqlNN rfl rfl Try.underlying41) rfl <| nT <| CJ_condT rfl rfl <| sR <| oA rfl rfl <| nT <| CJ_ret <| QJ_then_ret ?_
  cases h
  exact fE (res1 Try.results8 rfl) () (eD (eD eR))
 ·
  rw [ht8]
  refine RJ_ent (Ent.takeC (A' := Arr X6 o9) del2 rfl eR) <| oP (P_eqlPN rfl rfl Try.underlying41) rfl <| nT <| CJ_condF rfl rfl <| kT <| sR <| oM rfl rfl ?_
  obtain ⟨r10, hr11, h⟩ := bind_e h
  refine oO <| O_call (L_volumegroupmake_Spans hr11) rfl Try.call18 (Dels.cons del0 Dels.nil) rfl fun X12 _ => RJ_pure (fun h hh => Rs_len (stars_perm (del2 (A := Rs (DevP X6) r10 X12.2)).out h hh)) fun hdl15 => oA rfl rfl <| nT <| CJ_seq <| CJ_seq <| AJ_startH 256 (by kernel_rfl) rfl <| aN 0 1 rfl rfl (P_move rfl) rfl <| aV 1 3 rfl rfl (GY_none rfl) eR (VJ_eq (V_len rfl foc1 (Reads.sl _ _ _) Try.runUnderlying45) (congrArg (fun z : Nat => Value.int .i64 (z : Int)) (hdl15).symm)) rfl <| aN 2 7 rfl rfl (P_neq (a := ((r10.length : Nat) : Int)) (b := (1 : Int)) rfl rfl) rfl <| aN 3 15 rfl rfl (P_move rfl) rfl <| AJ_splitP 15 rfl bT_dec (fun hg1B hg1 => ?_) (fun hg1B hg1 => ?_)
  ·
   replace h := ite_t hg1 h
   refine aS 4 31 rfl rfl (GY_no rfl rfl rfl hg1B) rfl <| aS 5 63 rfl rfl (GY_no rfl rfl rfl hg1B) rfl <| aS 6 127 rfl rfl (GY_no rfl rfl rfl hg1B) rfl <| aS 7 255 rfl rfl (GY_no rfl rfl rfl hg1B) rfl <| aS 8 511 rfl rfl (GY_no rfl rfl rfl hg1B) rfl <| aS 9 1023 rfl rfl (GY_no rfl rfl rfl hg1B) rfl <| aN 10 2047 rfl rfl (P_pickT rfl hg1B rfl) rfl <| aD <| CJ_condT rfl rfl <| sR <| oA rfl rfl <| nT <| CJ_ret <| QJ_then_ret ?_
   cases h
   exact fE (res1 Try.results8 rfl) () (eD (eD (eD (eD (eD eR)))))
  ·
   replace h := ite_f hg1 h
   refine aP 4 31 rfl rfl (GY_yes rfl rfl rfl hg1B) (P_move rfl) rfl <| aV 5 63 rfl rfl (GY_yes rfl rfl rfl hg1B) eR (V_index (i := 0) rfl rfl rfl (by have hz : 0 < r10.length := (by omega); have hy := hdl15; omega) foc1 (Reads.sl _ _ _) Try.runUnderlying45 Try.sizeOf44) rfl <| AJ_ent (Ent.trans (t2_ eR) (Rs_at (fun _ _ => Dup_DevP) (dx := dv0) (dh := tyDev.dflt) (i := 0) (by omega))) <| aV 6 127 rfl rfl (GY_yes rfl rfl rfl hg1B) (t2_ (t2_ (t1_ (t1_ (t1_ (eD eR)))))) (V_loadE rfl rfl (by have hz : 0 < r10.length := (by omega); have hy := hdl15; omega) foc1 (Reads.sl _ _ _) rfl rfl Try.isAgg44) rfl ?_
   obtain ⟨r17, hr18, h⟩ := bind_e h
   refine AJ_op 7 255 rfl (by kernel_rfl) rfl (GY_yes rfl rfl rfl hg1B) <| O_call (L_volumegrouplaw11_sample hr18) rfl Try.call15 Dels.nil rfl fun _ _ => ⟨fun _ => (t2_ (t2_ (t1_ (t1_ (t1_ (eD eR)))))), ?_⟩
   obtain ⟨r19, hr20, h⟩ := bind_e h
   refine AJ_op 8 511 rfl (by kernel_rfl) rfl (GY_yes rfl rfl rfl hg1B) <| O_call (L_label_Write hr20) rfl Try.call21 (Dels.cons del0 (Dels.cons del1 Dels.nil)) rfl fun _ _ => ⟨fun h => absurd h (by decide), ?_⟩
   refine aP 9 1023 rfl rfl (GY_yes rfl rfl rfl hg1B) (P_neq (a := r19.1) (b := (0 : Int)) rfl rfl) rfl <| aN 10 2047 rfl rfl (P_pickF rfl hg1B rfl) rfl <| aD <| CJ_condP rfl bT_dec (fun hg2 => ?_) (fun hg2 => ?_)
   ·
    replace h := ite_t hg2 h
    refine sR <| oA rfl rfl <| nT <| CJ_ret <| QJ_then_ret ?_
    cases h
    exact fE (res1 Try.results8 rfl) () (eD (eD (eD (eD (eD (eD eR))))))
   ·
    replace h := ite_f hg2 h
    refine kT <| sR <| oM rfl rfl <| oV (V_index (i := 0) rfl rfl rfl (by have hz : 0 < r10.length := (by omega); have hy := hdl15; omega) foc3 (Reads.sl _ _ _) Try.runUnderlying45 Try.sizeOf44) rfl <| RJ_ent (Ent.trans (t2_ eR) (Rs_at (fun _ _ => Dup_DevP) (dx := dv0) (dh := tyDev.dflt) (i := 0) (by omega))) <| oV (V_loadE rfl rfl (by have hz : 0 < r10.length := (by omega); have hy := hdl15; omega) foc4 (Reads.sl _ _ _) rfl rfl Try.isAgg44) rfl ?_
    obtain ⟨r22, hr23, h⟩ := bind_e h
    refine oO <| O_call (L_label_Read hr23) rfl Try.call24 (Dels.cons del0 (Dels.cons del2 Dels.nil)) rfl fun _ _ => oM rfl rfl <| oP (P_extract rfl rfl) rfl <| oP (P_extract rfl rfl) rfl <| oO <| O_alloc Try.zeroValue24 rfl rfl fun b24 => oO <| O_storeN rfl rfl foc0 Try.sizeOf24 rfl rfl rfl <| oA rfl rfl <| RJ_nil <| QJ_ent (t0_ (t1_ (eD (eD (eD (eD (eD (eD eR)))))))) <| QJ_then <| CJ_seq <| AJ_startH 0 (by kernel_rfl) rfl <| aN 0 1 rfl rfl (P_move rfl) rfl <| aN 1 3 rfl rfl (P_eql (a := r22.2) (b := (0 : Int)) rfl rfl) rfl <| aN 2 7 rfl rfl (P_move rfl) rfl <| AJ_splitP 32 rfl bT_dec (fun hg3B hg3 => ?_) (fun hg3B hg3 => ?_)
    ·
     replace h := ite_t hg3 h
     refine aV 3 15 rfl rfl (GY_yes rfl rfl rfl hg3B) eR (V_loadN rfl foc0 Try.isAgg24 Try.sizeOf24 rfl rfl) rfl ?_
     obtain ⟨r25, hr26, h⟩ := bind_e h
     refine AJ_op 4 31 rfl (by kernel_rfl) rfl (GY_yes rfl rfl rfl hg3B) <| O_call (L_volumegrouplaw11_sample hr26) rfl Try.call15 Dels.nil rfl fun _ _ => ⟨fun _ => eR, ?_⟩
     refine aP 5 63 rfl rfl (GY_yes rfl rfl rfl hg3B) (P_eqlS (enc := (tyapi_Label).enc) (r22.1) (r25) rfl rfl eqs_24 (by kernel_rfl)) rfl <| aN 6 127 rfl rfl (P_pickT rfl hg3B rfl) rfl <| aN 7 255 rfl rfl (P_assign rfl) rfl <| aD <| CJ_ret ?_
     cases h
     exact fE (res1 Try.results8 rfl) () (eD (eD eR))
    ·
     replace h := ite_f hg3 h
     refine aS 3 15 rfl rfl (GY_no rfl rfl rfl hg3B) rfl <| aS 4 31 rfl rfl (GY_no rfl rfl rfl hg3B) rfl <| aS 5 63 rfl rfl (GY_no rfl rfl rfl hg3B) rfl <| aN 6 127 rfl rfl (P_pickF rfl hg3B rfl) rfl <| aN 7 255 rfl rfl (P_assign rfl) rfl <| aD <| CJ_ret ?_
     cases h
     exact fE (res1 Try.results8 rfl) () (eD (eD eR))
end Go.Proofs
namespace Go.Proofs
open Go.VG
theorem spans_l1 {s : ArrS} (h8 : s.drv.length ≤ 1000) (hz : ∀ i, i < s.drv.length → 1 ≤ s.size i ∧ s.size i ≤ 65536) : ∀ (N i : Nat) (acc : List Dvc), s.drv.length - i < N → i ≤ s.drv.length →
    acc = (List.range i).map (fun i => Dvc.span ((i : Nat) : Int) 0 ((s.size i : Nat) : Int)) → volumegroupmake_Spans_l1 s N acc i = some (.inl (spansA s))
  | 0, _, _, h, _, _ => absurd h (by omega)
  | N + 1, i, acc, h, hi, ha => by
    show volumegroupmake_Spans_l1_b _ _ _ _ = _
    unfold volumegroupmake_Spans_l1_b
    subst ha
    by_cases hlt : i < s.drv.length
    · have h1 := hz i hlt
      rw [if_pos (by omega), sizeI_of hlt, span_mk (by omega) (by omega) (by rw [sizeI_of hlt]; omega) (by rw [sizeI_of hlt]; omega)]
      simp only [Option.bind_some, Option.elim]
      rw [if_neg (by simp), grd_t (inLen_of (by simp; omega)), grd_t (inN64_of (by omega))]
      refine spans_l1 h8 hz N (i + 1) _ (by omega) (by omega) ?_
      simp [List.range_succ]
    · rw [if_neg (by omega)]
      have : i = s.drv.length := by omega
      rw [this]; rfl
theorem spans_eq {s : ArrS} (h8 : s.drv.length ≤ 1000) (hz : ∀ i, i < s.drv.length → 1 ≤ s.size i ∧ s.size i ≤ 65536) : volumegroupmake_Spans s = some (spansA s) := by
  unfold volumegroupmake_Spans
  have hF := fuel_big
  generalize FUEL = N at hF ⊢
  rw [spans_l1 h8 hz N 0 _ (by omega) (by omega) (by simp)]; rfl
end Go.Proofs
namespace Go.Proofs
open Go.VG
def lensN (ims : List (List UInt64)) : List Nat := ims.map List.length
theorem lensN_getD {ims : List (List UInt64)} {i : Nat} : (lensN ims).getD i 0 = (ims.getD i []).length := by
  simp only [lensN, List.getD, List.getElem?_map]; cases ims[i]? <;> rfl
@[simp] theorem lensN_length {ims : List (List UInt64)} : (lensN ims).length = ims.length := by simp [lensN]
theorem inSz_mkS {ims : List (List UInt64)} : InSz (lensN ims) (mkS ims) := ⟨by simp, fun d _ => by rw [size_nowL, nowL_mkS, lensN_getD], Nat.zero_le _⟩
end Go.Proofs
namespace Go.Proofs
open Go.VG
section
variable {ns : List Nat} {K d n : Nat} {s : ArrS} {l : api_Label}
theorem lab_write_out (hl : LabOk l) (h : ArrOk ns K s) (hK : K ≤ 900000) (hdn : s.down = false) (hd : d < ns.length) (hn : ns.getD d 0 = n) (hb : n ≤ 1000000) (hm : miss s d = false) (hz : l.Size ≤ (n : Int)) :
    (∃ t, label_Write (Dk d n) l s = some (0, t) ∧ ArrOk ns (K + 9) t ∧ t.down = false ∧ (∀ e, miss t e = miss s e) ∧ t.fuse = s.fuse - 9 ∧ (∀ e b, now t e b = if d = e ∧ b < 8 then (labL l).getD b 0 else now s e b) ∧ (∀ b, b < n → cand t d b = [now t d b])) ∨
    (s.fuse ≠ 0 ∧ ∃ t, label_Write (Dk d n) l s = some (5, t) ∧ ArrOk ns (K + 9) t ∧ t.down = true ∧ (∀ e, miss t e = miss s e) ∧ ((∀ e b, cand t e b = cand s e b) ∨ cand t d 0 = [0])) := by
  have hl1 := hl.size; have hl2 := hl.start; have hl3 := hl.area; have hl4 := hl.room
  have hn12 : 12 ≤ n := by omega
  have hex : (⟨l.ID, l.Size, l.Start, l.Area, l.Group⟩ : api_Label) = l := rfl
  unfold label_Write
  rw [hex, check_ok hl]; simp only [Option.bind_some]
  rw [if_neg (by decide), Dk.sz]; simp only [Option.bind_some]
  rw [if_neg (by omega), label_pack_eq]; simp only [Option.bind_some]
  unfold label_Write_1
  rcases Dk.wr (v := 0) h (by omega) hdn hd hn (by omega) hm (k := 0) (by omega) with ⟨hf1, s1, w1, W1⟩ | ⟨hf1, s1, w1, W1⟩
  all_goals (have w1' := show (Dk d n).wr s 0 0 = _ from w1; clear w1; have w1 := w1'; clear w1')
  rotate_left
  · refine .inr ⟨by omega, s1, ?_, W1.ok.mono (by omega), W1.dn, W1.miss, .inl W1.cand⟩
    rw [w1]; simp only [Option.bind_some]
    rw [if_pos (by decide)]
  rw [w1]; simp only [Option.bind_some]
  rw [if_neg (by decide)]
  obtain ⟨s2, w2, W2⟩ := Dk.fl (n := n) W1.ok (by omega) W1.dn hd (by rw [W1.miss]; exact hm)
  rw [w2]; simp only [Option.bind_some]
  rw [if_neg (by decide)]
  have hz2 : cand s2 d 0 = [0] := by rw [W2.cand d 0 hd (by omega), if_pos rfl, W1.now, if_pos ⟨rfl, rfl⟩]
  unfold label_Write_2
  have hm2 : miss s2 d = false := by rw [W2.miss, W1.miss]; exact hm
  rcases Dk.writeAll (a := 1) (l := [(labA l).e1, (labA l).e2, (labA l).e3, (labA l).e4, (labA l).e5, (labA l).e6, (labA l).e7]) W2.ok (by simp; omega) W2.dn hd hn hb hm2 (by simp; omega) with ⟨s3, w3, W3⟩ | ⟨hf3, hf3', s3, w3, W3⟩
  all_goals (have w3' := show block_WriteAll (Dk d n) 1 _ s2 = _ from w3; clear w3; have w3 := w3'; clear w3')
  rotate_left
  · refine .inr ⟨?_, s3, ?_, W3.ok.mono (by simp only [List.length_cons, List.length_nil]; omega), W3.dn, fun e => by rw [W3.miss, W2.miss, W1.miss], .inr ?_⟩
    · have := W2.fuse; have := W1.fuse; omega
    · rw [w3]; simp only [Option.bind_some]
      rw [if_pos (by decide)]
    · rw [W3.cand d 0 (fun x => by have := x.2.1; omega)]; exact hz2
  rw [w3]; simp only [Option.bind_some]
  rw [if_neg (by decide)]
  have hm3 : miss s3 d = false := by rw [W3.miss]; exact hm2
  have ok3 := W3.ok
  simp only [List.length_cons, List.length_nil] at ok3
  obtain ⟨s4, w4, W4⟩ := Dk.fl (n := n) ok3 (by omega) W3.dn hd hm3
  rw [w4]; simp only [Option.bind_some]
  rw [if_neg (by decide)]
  have hm4 : miss s4 d = false := by rw [W4.miss]; exact hm3
  have hf4 : s4.fuse = s.fuse - 8 := by
    have a1 := W4.fuse; have a2 := W3.fuse; have a3 := W2.fuse; have a4 := W1.fuse
    simp only [List.length_cons, List.length_nil] at a2
    omega
  have hnow3 : ∀ e b, now s3 e b = if d = e ∧ 1 ≤ b ∧ b < 8 then (labL l).getD b 0 else now s2 e b := fun e b => by
    rw [W3.now]
    simp only [List.length_cons, List.length_nil]
    by_cases hc : d = e ∧ 1 ≤ b ∧ b < 8
    · rw [if_pos ⟨hc.1, hc.2.1, by omega⟩, if_pos hc]
      obtain ⟨j, rfl⟩ : ∃ j, b = j + 1 := ⟨b - 1, by omega⟩
      rfl
    · rw [if_neg hc, if_neg (fun x => hc ⟨x.1, x.2.1, by omega⟩)]
  have hc4 : cand s4 d 0 = [0] := by
    rw [W4.cand d 0 hd (by omega), if_pos rfl, hnow3, if_neg (by omega), W2.now, W1.now, if_pos ⟨rfl, rfl⟩]
  unfold label_Write_3
  rcases Dk.wr (v := (labA l).e0) W4.ok (by omega) W4.dn hd hn (by omega) hm4 (k := 0) (by omega) with ⟨hf5, s5, w5, W5⟩ | ⟨hf5, s5, w5, W5⟩
  all_goals (have w5' := show (Dk d n).wr s4 0 _ = _ from w5; clear w5; have w5 := w5'; clear w5')
  rotate_left
  · refine .inr ⟨by omega, s5, ?_, W5.ok.mono (by omega), W5.dn, fun e => by rw [W5.miss, W4.miss, W3.miss, W2.miss, W1.miss], .inr (by rw [W5.cand]; exact hc4)⟩
    rw [w5]; simp only [Option.bind_some]
    rw [if_pos (by decide)]
  rw [w5]; simp only [Option.bind_some]
  rw [if_neg (by decide)]
  obtain ⟨s6, w6, W6⟩ := Dk.fl (n := n) W5.ok (by omega) W5.dn hd (by rw [W5.miss]; exact hm4)
  rw [w6]; simp only [Option.bind_some]
  rw [if_neg (by decide)]
  refine .inl ⟨s6, rfl, W6.ok.mono (by omega), W6.dn, fun e => by rw [W6.miss, W5.miss, W4.miss, W3.miss, W2.miss, W1.miss], ?_, ?_, ?_⟩
  · have := W6.fuse; have := W5.fuse; omega
  · intro e b
    rw [W6.now, W5.now, W4.now, hnow3, W2.now, W1.now]
    by_cases hde : d = e
    · by_cases hb0 : 0 = b
      · subst hb0; rw [if_pos ⟨hde, rfl⟩, if_pos ⟨hde, by omega⟩]; rfl
      · rw [if_neg (fun x => hb0 x.2)]
        by_cases hb8 : b < 8
        · rw [if_pos ⟨hde, by omega, hb8⟩, if_pos ⟨hde, hb8⟩]
        · rw [if_neg (fun x => hb8 x.2.2), if_neg (fun x => hb0 x.2), if_neg (fun x => hb8 x.2)]
    · rw [if_neg (fun x => hde x.1), if_neg (fun x => hde x.1), if_neg (fun x => hde x.1), if_neg (fun x => hde x.1)]
  · intro b hbn
    rw [W6.cand d b hd (by omega), if_pos rfl, W6.now]
def nowA (s : ArrS) (d : Nat) : Arr62 := ⟨now s d 0, now s d 1, now s d 2, now s d 3, now s d 4, now s d 5, now s d 6, now s d 7⟩
theorem lab_read_eq (h : ArrOk ns K s) (hdn : s.down = false) (hd : d < ns.length) (hn : ns.getD d 0 = n) (hb : n ≤ 1000000) (hm : miss s d = false) (h8 : 8 ≤ n) :
    label_Read (Dk d n) s = some (if (fromA (nowA s d)).2 ≠ 0 then (zL, (fromA (nowA s d)).2) else if (n : Int) < (fromA (nowA s d)).1.Size then (zL, 3) else ((fromA (nowA s d)).1, 0)) := by
  unfold label_Read
  rw [Dk.sz]; simp only [Option.bind_some]
  rw [if_neg (by omega)]
  have hr : block_ReadAll (Dk d n) 0 8 s = _ := Dk.readAll (a := 0) (m := 8) h hdn hd hn hb hm (by omega)
  rw [hr]; simp only [Option.bind_some]
  rw [if_neg (by decide)]
  have e : (List.range 8).map (fun i => now s d (0 + i)) = arrL (nowA s d) := by
    simp only [Nat.zero_add]; rfl
  rw [e, from_eq]; simp only [Option.bind_some]
  by_cases hc : (fromA (nowA s d)).2 ≠ 0
  · rw [if_pos hc, if_pos hc]
  · rw [if_neg hc, if_neg hc]
    by_cases hs : (n : Int) < (fromA (nowA s d)).1.Size
    · rw [if_pos hs, if_pos hs]
    · rw [if_neg hs, if_neg hs]
end
theorem miss_mkS {ims : List (List UInt64)} {d : Nat} : miss (mkS ims) d = false := good_mkS.miss d
theorem spans_one {s : ArrS} {n : Nat} (h : InSz [n] s) (hn : 1 ≤ n ∧ n ≤ 65536) : volumegroupmake_Spans s = some [Dk 0 n] := by
  have hc : s.drv.length = 1 := h.cnt
  have hz : s.size 0 = n := h.size 0 (by simp)
  rw [spans_eq (by omega) (fun i hi => by
    obtain rfl : i = 0 := by omega
    rw [hz]; exact hn)]
  show some ((List.range s.drv.length).map _) = _
  rw [hc]
  show some [Dvc.span ((0 : Nat) : Int) 0 ((s.size 0 : Nat) : Int)] = _
  rw [hz]
abbrev sampL (id : UInt64) : api_Label := ⟨id, 20, 8, 12, 3⟩
theorem samp_ok {id : UInt64} : LabOk (sampL id) := by
  constructor <;> simp only [sampL] <;> omega
theorem nowA_labL {l : api_Label} {s t : ArrS} {d : Nat} (h : ∀ e b, now t e b = if d = e ∧ b < 8 then (labL l).getD b 0 else now s e b) : nowA t d = labA l := by
  unfold nowA
  simp only [h]
  rfl
theorem awake11 : volumegrouplaw11_awake = some true := by
  unfold volumegrouplaw11_awake
  rw [loaded_eq (by simp) (by intro im him; rw [List.mem_singleton.1 him]; simp)]
  simp only [Option.bind_some, Option.elim]
  have hS : InSz [20] (mkS [List.replicate 20 0]) := by have := inSz_mkS (ims := [List.replicate 20 (0 : UInt64)]); simpa [lensN] using this
  have hA : ArrOk [20] 0 (mkS [List.replicate 20 0]) := ⟨hS, Nat.le_refl _, coh_mkS, rfl⟩
  rw [spans_one hS (by omega)]; simp only [Option.bind_some]
  rw [if_neg (by simp)]
  unfold volumegrouplaw11_sample
  simp only [Option.bind_some]
  show Option.bind (label_Write (Dk 0 20) (sampL 7) _) _ = _
  rcases lab_write_out (d := 0) (n := 20) (samp_ok (id := 7)) hA (by omega) rfl (by simp) rfl (by omega) miss_mkS (by decide) with ⟨t, h1, h2, h3, h4, h5, h6, h7⟩ | ⟨h1, _⟩
  rotate_left
  · exact absurd rfl h1
  rw [h1]; simp only [Option.bind_some]
  rw [if_neg (by decide)]
  show Option.bind (label_Read (Dk 0 20) _) _ = _
  rw [lab_read_eq (d := 0) (n := 20) h2 h3 (by simp) rfl (by omega) (by rw [h4]; exact miss_mkS) (by omega)]
  have e : nowA t 0 = labA (sampL 7) := nowA_labL h6
  rw [e, from_labL samp_ok]
  rfl
end Go.Proofs
namespace Go.Proofs
open Go.VG
theorem same02_l1 {a b : List UInt64} (hl : a.length = b.length) : ∀ (N i : Nat), a.length - i < N → i ≤ a.length → (∀ j, j < i → a.getD j 0 = b.getD j 0) →
    volumegroupref02_Same_l1 a b N i = some (if a = b then .inl () else .inr false)
  | 0, _, h, _, _ => absurd h (by omega)
  | N + 1, i, h, hi, he => by
    show volumegroupref02_Same_l1_b _ _ _ _ = _
    unfold volumegroupref02_Same_l1_b
    by_cases hlt : i < a.length
    · rw [if_pos (by omega)]
      by_cases hab : a.getD i 0 = b.getD i 0
      · rw [if_neg (by simpa using hab)]
        refine same02_l1 hl N (i + 1) (by omega) (by omega) fun j hj => ?_
        rcases Nat.lt_or_ge j i with h2 | h2
        · exact he j h2
        · have : j = i := by omega
          rw [this]; exact hab
      · rw [if_pos (by simpa using hab), if_neg (fun e => hab (by rw [e]))]
    · rw [if_neg (by omega), if_pos]
      refine List.ext_getElem hl fun j h1 h2 => ?_
      have := he j (by omega)
      simpa [List.getD, h1, h2] using this
theorem same02_eq {a b : List UInt64} (hl : a.length ≤ 1000000000) : volumegroupref02_Same a b = some (decide (a = b)) := by
  unfold volumegroupref02_Same
  have hF := fuel_big
  generalize FUEL = N at hF ⊢
  by_cases h : a.length = b.length
  · rw [if_neg (by omega), same02_l1 h N 0 (by omega) (by omega) (fun j h => absurd h (by omega))]
    by_cases e : a = b
    · rw [if_pos e, decide_eq_true e]; rfl
    · rw [if_neg e, decide_eq_false e]; rfl
  · rw [if_pos (by omega), decide_eq_false (fun e => h (by rw [e]))]
end Go.Proofs
set_option linter.unusedSimpArgs false
set_option linter.unusedVariables false
set_option maxRecDepth 20000
set_option maxHeartbeats 4000000
namespace Go.Proofs
open Go.VG
theorem bs_36_2_0_1 (v0 : Int) (v1 : Int) (v2 : Int) (v3 : Int) (v4 : Int) (v5 : Int) (v6 : Int) (v7 : Int) (v8 : Int) (v9 : Int) : BuildsSlice Try.prog 36 2 [(0, .agg #[.int .u64 v0, .int .i64 v1, .int .i64 v2, .int .i64 v3, .int .u64 v4]), (1, .agg #[.int .u64 v5, .int .i64 v6, .int .i64 v7, .int .i64 v8, .int .u64 v9])] 24 [.int .u64 v0, .int .i64 v1, .int .i64 v2, .int .i64 v3, .int .u64 v4, .int .u64 v5, .int .i64 v6, .int .i64 v7, .int .i64 v8, .int .u64 v9] := fun w => by kernel_rfl
theorem bs_37_3_0_1_2 (v0 : (Option Addr)) (v1 : Nat) (v2 : Nat) (v3 : (Option Addr)) (v4 : Nat) (v5 : Nat) (v6 : (Option Addr)) (v7 : Nat) (v8 : Nat) : BuildsSlice Try.prog 37 3 [(0, .slice v0 v1 v2), (1, .slice v3 v4 v5), (2, .slice v6 v7 v8)] 27 [.slice v0 v1 v2, .slice v3 v4 v5, .slice v6 v7 v8] := fun w => by kernel_rfl
def volumegrouplaw11_LabelWords_l1_b (l : api_Label) (at_2 : UInt8) (x_3 : UInt64) (rec : (List (List UInt64)) → Nat → Option (((List (List UInt64))) ⊕ Bool)) (x19 : List (List UInt64)) (x22 : Nat) : Option (((List (List UInt64))) ⊕ Bool) :=
  lt (([(⟨l.ID, l.Size, l.Start, l.Area, l.Group⟩ : api_Label), (⟨l.ID, ((8 : Int) + (andI l.Size (63 : Int))), ((7 : Int) + (andI l.Start (15 : Int))), ((3 : Int) + (andI l.Area (15 : Int))), l.Group⟩ : api_Label)]).length) fun w25 =>
  if (((x22 : Nat) : Int) < ((w25 : Nat) : Int)) then
    lt ((([(⟨l.ID, l.Size, l.Start, l.Area, l.Group⟩ : api_Label), (⟨l.ID, ((8 : Int) + (andI l.Size (63 : Int))), ((7 : Int) + (andI l.Start (15 : Int))), ((3 : Int) + (andI l.Area (15 : Int))), l.Group⟩ : api_Label)]).getD x22 (⟨0, 0, 0, 0, 0⟩ : api_Label))) fun w26 =>
    Option.bind (label_Words w26) fun r27 =>
    lt ((([(⟨l.ID, l.Size, l.Start, l.Area, l.Group⟩ : api_Label), (⟨l.ID, ((8 : Int) + (andI l.Size (63 : Int))), ((7 : Int) + (andI l.Start (15 : Int))), ((3 : Int) + (andI l.Area (15 : Int))), l.Group⟩ : api_Label)]).getD x22 (⟨0, 0, 0, 0, 0⟩ : api_Label))) fun w31 =>
    Option.bind (volumegroupref11_Words w31) fun r32 =>
    if (r27.2 ≠ r32.2) then
      if true = true then
        some (.inr false)
      else
        lt ((([(⟨l.ID, l.Size, l.Start, l.Area, l.Group⟩ : api_Label), (⟨l.ID, ((8 : Int) + (andI l.Size (63 : Int))), ((7 : Int) + (andI l.Start (15 : Int))), ((3 : Int) + (andI l.Area (15 : Int))), l.Group⟩ : api_Label)]).getD x22 (⟨0, 0, 0, 0, 0⟩ : api_Label))) fun w36 =>
        lt ((([(⟨l.ID, l.Size, l.Start, l.Area, l.Group⟩ : api_Label), (⟨l.ID, ((8 : Int) + (andI l.Size (63 : Int))), ((7 : Int) + (andI l.Start (15 : Int))), ((3 : Int) + (andI l.Area (15 : Int))), l.Group⟩ : api_Label)]).getD x22 (⟨0, 0, 0, 0, 0⟩ : api_Label))) fun w37 =>
        Option.bind (label_Check w36) fun r38 =>
        Option.bind (volumegroupref11_Check w37) fun r40 =>
        if (r38 ≠ r40) then
          some (.inr false)
        else
          if (r27.2 = (0 : Int)) then
            grd (inLen (0 + r32.1.length)) <|
            grd (decide (((at_2 % (8 : UInt8))).toNat < ([] ++ r32.1).length)) <|
            grd (decide (((at_2 % (8 : UInt8))).toNat < ([] ++ r32.1).length)) <|
            grd (decide (0 ≤ 7 ∧ 7 ≤ r32.1.length)) <|
            grd (inLen (x19.length + 3)) <|
            grd (inN64 (x22 + 1)) <|
            rec ((x19 ++ ([r32.1, (([] ++ r32.1).set (((at_2 % (8 : UInt8))).toNat) (((([] ++ r32.1).getD (((at_2 % (8 : UInt8))).toNat) 0) ^^^ x_3))), ((r32.1.take 7).drop 0)] : List (List UInt64)))) (x22 + 1)
          else
            grd (inN64 (x22 + 1)) <|
            rec x19 (x22 + 1)
    else
      Option.bind (volumegroupref02_Same r27.1 r32.1) fun r55 =>
      if (¬ r55 = true) then
        some (.inr false)
      else
        lt ((([(⟨l.ID, l.Size, l.Start, l.Area, l.Group⟩ : api_Label), (⟨l.ID, ((8 : Int) + (andI l.Size (63 : Int))), ((7 : Int) + (andI l.Start (15 : Int))), ((3 : Int) + (andI l.Area (15 : Int))), l.Group⟩ : api_Label)]).getD x22 (⟨0, 0, 0, 0, 0⟩ : api_Label))) fun w57 =>
        lt ((([(⟨l.ID, l.Size, l.Start, l.Area, l.Group⟩ : api_Label), (⟨l.ID, ((8 : Int) + (andI l.Size (63 : Int))), ((7 : Int) + (andI l.Start (15 : Int))), ((3 : Int) + (andI l.Area (15 : Int))), l.Group⟩ : api_Label)]).getD x22 (⟨0, 0, 0, 0, 0⟩ : api_Label))) fun w58 =>
        Option.bind (label_Check w57) fun r59 =>
        Option.bind (volumegroupref11_Check w58) fun r61 =>
        if (r59 ≠ r61) then
          some (.inr false)
        else
          if (r27.2 = (0 : Int)) then
            grd (inLen (0 + r32.1.length)) <|
            grd (decide (((at_2 % (8 : UInt8))).toNat < ([] ++ r32.1).length)) <|
            grd (decide (((at_2 % (8 : UInt8))).toNat < ([] ++ r32.1).length)) <|
            grd (decide (0 ≤ 7 ∧ 7 ≤ r32.1.length)) <|
            grd (inLen (x19.length + 3)) <|
            grd (inN64 (x22 + 1)) <|
            rec ((x19 ++ ([r32.1, (([] ++ r32.1).set (((at_2 % (8 : UInt8))).toNat) (((([] ++ r32.1).getD (((at_2 % (8 : UInt8))).toNat) 0) ^^^ x_3))), ((r32.1.take 7).drop 0)] : List (List UInt64)))) (x22 + 1)
          else
            grd (inN64 (x22 + 1)) <|
            rec x19 (x22 + 1)
  else
    some (.inl x19)
def volumegrouplaw11_LabelWords_l1 (l : api_Label) (at_2 : UInt8) (x_3 : UInt64) : Nat → (List (List UInt64)) → Nat → Option (((List (List UInt64))) ⊕ Bool)
  | 0, _, _ => none
  | n + 1, x19, x22 => volumegrouplaw11_LabelWords_l1_b l at_2 x_3 (volumegrouplaw11_LabelWords_l1 l at_2 x_3 n) x19 x22
def volumegrouplaw11_LabelWords_l2_b (a18 : (List (List UInt64))) (rec : Nat → Option ((Unit) ⊕ Bool)) (x83 : Nat) : Option ((Unit) ⊕ Bool) :=
  if (((x83 : Nat) : Int) < ((a18.length : Nat) : Int)) then
    Option.bind (label_FromWords (a18.getD x83 [])) fun r84 =>
    Option.bind (volumegroupref11_FromWords (a18.getD x83 [])) fun r87 =>
    if ((r84.2 ≠ r87.2) ∨ (r84.1 ≠ r87.1)) then
      some (.inr false)
    else
      rec (x83 + 1)
  else
    some (.inl ())
def volumegrouplaw11_LabelWords_l2 (a18 : (List (List UInt64))) : Nat → Nat → Option ((Unit) ⊕ Bool)
  | 0, _ => none
  | n + 1, x83 => volumegrouplaw11_LabelWords_l2_b a18 (volumegrouplaw11_LabelWords_l2 a18 n) x83
def volumegrouplaw11_LabelWords (l : api_Label) (w : List UInt64) (at_2 : UInt8) (x_3 : UInt64) : Option (Bool) :=
  if ((20 : Int) < ((w.length : Nat) : Int)) then
    Option.bind (volumegrouplaw11_awake) fun r3 =>
    some r3
  else
    grd (inI64 (((8 : Int) + (andI l.Size (63 : Int))))) <|
    grd (inI64 (((7 : Int) + (andI l.Start (15 : Int))))) <|
    grd (inI64 (((3 : Int) + (andI l.Area (15 : Int))))) <|
    seqO (volumegrouplaw11_LabelWords_l1 l at_2 x_3 FUEL (([w] : List (List UInt64))) 0) fun a18 =>
    seqO (volumegrouplaw11_LabelWords_l2 a18 FUEL 0) fun a82 =>
    Option.bind (volumegrouplaw11_awake) fun r97 =>
    some r97
theorem L_volumegrouplaw11_LabelWords {W : World} {Aw : HP} {vw : Value} {l : api_Label} {w : List UInt64} {at_2 : UInt8} {x_3 : UInt64} {r : Bool} (rw : Reads Aw tyU vw w) (duw : Dup Aw) (h : volumegrouplaw11_LabelWords l w at_2 x_3 = some r) :
    CSpec Try.prog W 4 [.agg #[.int .u64 (l.ID.toNat : Int), .int .i64 l.Size, .int .i64 l.Start, .int .i64 l.Area, .int .u64 (l.Group.toNat : Int)], vw, .int .u8 (at_2.toNat : Int), .int .u64 (x_3.toNat : Int)] [Aw] (fun x : Unit => .bool r) (fun _ => True) (fun x F => Aw :: F) := by
 refine CSpec.of_body Try.func4 rfl Try.ntmps4 rfl fun F => ?_
 show CJ _ _ _ _ _ _ (_ :: F)
 unfold volumegrouplaw11_LabelWords at h
 refine CJ_pure (len_of rw del0) fun hlen1 => sR <| oO <| O_box rfl rfl rfl fun b2 => oA rfl rfl <| nT <| CJ_seq <| sR <| oM rfl rfl <| oV (V_len rfl foc1 rw Try.runUnderlying27) rfl <| oP (P_gtr (a := ((w.length : Nat) : Int)) (b := (20 : Int)) rfl rfl) rfl <| nT <| CJ_condP rfl bT_dec (fun hg1 => ?_) (fun hg1 => ?_)
 ·
  replace h := ite_t hg1 h
  refine sR ?_
  obtain ⟨r3, hr4, h⟩ := bind_e h
  refine oO <| O_call (L_volumegrouplaw11_awake hr4) rfl Try.call8 Dels.nil rfl fun _ _ => oA rfl rfl <| nT <| CJ_ret <| QJ_then_ret ?_
  cases h
  exact fE (res1 Try.results4 rfl) () (t1_ (eD eR))
 ·
  replace h := ite_f hg1 h
  refine kT <| sR <| oP (P_fieldAddr rfl ⟨_, _, _, Try.runUnderlying24, rfl, rfl, Try.sizeOf22, rfl⟩) rfl <| oV (V_load rfl foc0 rfl Try.isAgg22) rfl <| oP (P_fieldAddr rfl ⟨_, _, _, Try.runUnderlying24, rfl, rfl, Try.sizeOf3, rfl⟩) rfl <| oV (V_load rfl foc0 rfl Try.isAgg3) rfl <| oP (P_and (a := l.Size) (m := (63 : Int)) rfl rfl (by decide)) rfl ?_
  obtain ⟨hg3, h⟩ := grd_Ie h
  refine oP (P_add (a := (8 : Int)) (b := (andI l.Size (63 : Int))) rfl rfl hg3) rfl <| oP (P_fieldAddr rfl ⟨_, _, _, Try.runUnderlying24, rfl, rfl, Try.sizeOf3, rfl⟩) rfl <| oV (V_load rfl foc0 rfl Try.isAgg3) rfl <| oP (P_and (a := l.Start) (m := (15 : Int)) rfl rfl (by decide)) rfl ?_
  obtain ⟨hg5, h⟩ := grd_Ie h
  refine oP (P_add (a := (7 : Int)) (b := (andI l.Start (15 : Int))) rfl rfl hg5) rfl <| oP (P_fieldAddr rfl ⟨_, _, _, Try.runUnderlying24, rfl, rfl, Try.sizeOf3, rfl⟩) rfl <| oV (V_load rfl foc0 rfl Try.isAgg3) rfl <| oP (P_and (a := l.Area) (m := (15 : Int)) rfl rfl (by decide)) rfl ?_
  obtain ⟨hg7, h⟩ := grd_Ie h
  refine oP (P_add (a := (3 : Int)) (b := (andI l.Area (15 : Int))) rfl rfl hg7) rfl <| oP (P_fieldAddr rfl ⟨_, _, _, Try.runUnderlying24, rfl, rfl, Try.sizeOf22, rfl⟩) rfl <| oV (V_load rfl foc0 rfl Try.isAgg22) rfl <| oP (P_build rfl (bld_24_0_1_2_3_4 _ _ _ _ _)) rfl <| oO <| O_alloc Try.zeroValue24 rfl rfl fun b5 => oO <| O_storeN rfl rfl foc0 Try.sizeOf24 rfl rfl rfl <| nT <| sR <| oV (V_loadN rfl foc1 Try.isAgg24 Try.sizeOf24 rfl rfl) rfl <| oV (V_loadN rfl foc0 Try.isAgg24 Try.sizeOf24 rfl rfl) rfl <| oO <| O_buildSlice rfl (bs_36_2_0_1 _ _ _ _ _ _ _ _ _ _) rfl fun b6 => RJ_ent (Ent.trans (t0_ eR) (sl_of_lit (t := tyapi_Label) (m := 2) [(⟨l.ID, l.Size, l.Start, l.Area, l.Group⟩ : api_Label), (⟨l.ID, ((8 : Int) + (andI l.Size (63 : Int))), ((7 : Int) + (andI l.Start (15 : Int))), ((3 : Int) + (andI l.Area (15 : Int))), l.Group⟩ : api_Label)] rfl rfl rfl (by decide))) <| oA rfl rfl <| nT <| sR <| oM rfl rfl <| RJ_pure (reads_sl3 rw del3) fun hsv8 => ?_
  obtain ⟨sv7, hsv8⟩ := hsv8
  subst hsv8
  refine oO <| O_buildSlice rfl (bs_37_1_0 _ _ _) rfl fun b9 => RJ_ent (Ent.trans (t0_ eR) (sl_of_lit (t := tyRow) (m := 1) [sv7] rfl rfl rfl (by decide))) <| oA rfl rfl <| nT <| CJ_seq <| sR <| oA rfl rfl <| nT <| CJ_ent (Ent.trans (t4_ eR) (fun h hh => stars_dup duw hh)) <| CJ_ent (Ent.take1 del0 (RowP_of (h := sv7) duw rw) eR) <| CJ_ent (fun h hh => rs_nil (RP := RowP) h hh) <| CJ_ent (Ent.trans (t0_ (t0_ eR)) (Rs_push (x := w) (g := sv7) Dup_RowP)) <| CJ_ent (Ent.takeC (A' := Rs RowP (([w] : List (List UInt64))) ([sv7])) del0 rfl eR) ?_
  obtain ⟨y14, hl12, hK13⟩ := seq_e h
  refine CJ_cutT (X := (List (List UInt64)) × Sl3 × (List Sl3)) [8, 11, 12, 13, 14, 15, 16, 17, 49, 50, 51, 52, 53, 54, 55, 56, 57, 58, 59, 60, 61, 62, 63, 64, 65, 66, 67, 68, 69, 70, 71, 72, 73, 74, 75, 76, 77, 78, 79, 80, 81, 82, 83, 84, 85, 86, 87, 88, 89, 90, 91, 92, 93, 94, 95, 96, 97, 98, 99, 100, 101, 102, 103, 104, 105, 106, 107, 108, 109, 110, 111] (fun ⟨a18, hd16, hs17⟩ => ([(11, hd16.v)] : Slots)) (fun ⟨a18, hd16, hs17⟩ R => sl tyRow hd16.v hs17 :: Rs RowP a18 hs17 :: R) (fun ⟨a18, hd16, hs17⟩ => y14 = .inl a18) (Dels.cons del3 (Dels.cons del0 (Dels.cons del0 (Dels.cons del2 (Dels.cons del2 Dels.nil))))) ?_ ?_
  ·
   refine CJ_block <| CJ_loopR (X := Nat × (List (List UInt64)) × Nat × Sl3 × (List Sl3)) [8, 11, 12, 13, 14, 15, 16, 17, 49, 50, 51, 52, 53, 54, 55, 56, 57, 58, 59, 60, 61, 62, 63, 64, 65, 66, 67, 68, 69, 70, 71, 72, 73, 74, 75, 76, 77, 78, 79, 80, 81, 82, 83, 84, 85, 86, 87, 88, 89, 90, 91, 92, 93, 94, 95, 96, 97, 98, 99, 100, 101, 102, 103, 104, 105, 106, 107, 108, 109, 110, 111] (fun ⟨n, x19, x22, hd20, hs21⟩ => ([(11, hd20.v), (12, .int .i64 (((x22 : Nat) : Int)))] : Slots)) (fun ⟨n, x19, x22, hd20, hs21⟩ R => sl tyRow hd20.v hs21 :: Rs RowP x19 hs21 :: R) (fun ⟨n, x19, x22, hd20, hs21⟩ => volumegrouplaw11_LabelWords_l1 l at_2 x_3 n x19 x22 = some y14) (fun ⟨n, x19, x22, hd20, hs21⟩ => n) ⟨FUEL, ([w] : List (List UInt64)), 0, ⟨some ⟨b9, 0, none⟩, 1, 1⟩, [sv7]⟩ ?_ ?_ (t3_ (t0_ (t1_ (t1_ (eD (eD (eD eR))))))) ?_
   · exact hl12
   · exact ⟨rfl, rfl, True.intro⟩
   ·
    rintro ⟨n, x19, x22, hd20, hs21⟩ h
    cases n with
    | zero => exact none_e h
    | succ n => ?_
    replace h : volumegrouplaw11_LabelWords_l1_b l at_2 x_3 (volumegrouplaw11_LabelWords_l1 l at_2 x_3 n) x19 x22 = some y14 := h
    unfold volumegrouplaw11_LabelWords_l1_b at h
    show CJ _ _ _ _ _ (([(11, hd20.v), (12, .int .i64 (((x22 : Nat) : Int)))] : Slots) ++ forget _ _) (sl tyRow hd20.v hs21 :: Rs RowP x19 hs21 :: _)
    refine lC del0 fun hlen23 => CJ_pure (fun h hh => Rs_len (stars_perm (del1 (A := Rs RowP x19 hs21)).out h hh)) fun hdl24 => CJ_seq <| sR <| oM rfl rfl <| oM rfl rfl <| oV (V_len rfl foc3 (Reads.sl _ _ _) Try.runUnderlying36) rfl ?_
    obtain ⟨w25, hw25, h⟩ := lt_e h
    rw [← hw25]
    refine oP (P_lss (a := ((x22 : Nat) : Int)) (b := ((w25 : Nat) : Int)) rfl rfl) rfl <| nT <| CJ_condP rfl bT_dec (fun hg8 => ?_) (fun hg8 => ?_)
    ·
     replace h := ite_t hg8 h
     refine kT <| CJ_seq <| CJ_block <| sR <| oM rfl rfl <| oM rfl rfl <| oV (V_index (i := x22) rfl rfl rfl (by omega) foc3 (Reads.sl _ _ _) Try.runUnderlying36 Try.sizeOf24) rfl <| oV (V_loadEN rfl rfl (by omega) foc3 (Reads.sl _ _ _) rfl rfl Try.isAgg24 Try.sizeOf24) rfl ?_
     obtain ⟨w26, hw26, h⟩ := lt_e h
     rw [← hw26]
     obtain ⟨r27, hr28, h⟩ := bind_e h
     refine oO <| O_call (L_label_Words hr28) rfl Try.call11 Dels.nil rfl fun X29 _ => oM rfl rfl <| oP (P_extract (v := X29.v) rfl rfl) rfl <| oP (P_extract rfl rfl) rfl <| oA rfl rfl <| oA rfl rfl <| nT <| sR <| oM rfl rfl <| oM rfl rfl <| oV (V_index (i := x22) rfl rfl rfl (by omega) foc4 (Reads.sl _ _ _) Try.runUnderlying36 Try.sizeOf24) rfl <| oV (V_loadEN rfl rfl (by omega) foc4 (Reads.sl _ _ _) rfl rfl Try.isAgg24 Try.sizeOf24) rfl ?_
     obtain ⟨w31, hw31, h⟩ := lt_e h
     rw [← hw31]
     obtain ⟨r32, hr33, h⟩ := bind_e h
     refine oO <| O_call (L_volumegroupref11_Words hr33) rfl Try.call7 Dels.nil rfl fun X34 _ => oM rfl rfl <| oP (P_extract (v := X34.v) rfl rfl) rfl <| oP (P_extract rfl rfl) rfl <| oA rfl rfl <| oA rfl rfl <| nT <| CJ_seq <| CJ_seq <| AJ_startH 524288 (by kernel_rfl) rfl <| aN 0 1 rfl rfl (P_move rfl) rfl <| aN 1 3 rfl rfl (P_move rfl) rfl <| aN 2 7 rfl rfl (P_neq (a := r27.2) (b := r32.2) rfl rfl) rfl <| aN 3 15 rfl rfl (P_move rfl) rfl <| AJ_splitP 74 rfl bT_dec (fun hg9B hg9 => ?_) (fun hg9B hg9 => ?_)
     ·
      replace h := ite_t hg9 h
      refine aS 4 31 rfl rfl (GY_no rfl rfl rfl hg9B) rfl <| aS 5 63 rfl rfl (GY_no rfl rfl rfl hg9B) rfl <| aS 6 127 rfl rfl (GY_no rfl rfl rfl hg9B) rfl <| aS 7 255 rfl rfl (GY_no rfl rfl rfl hg9B) rfl <| aN 8 511 rfl rfl (P_pickT rfl hg9B rfl) rfl <| aN 9 1023 rfl rfl (P_move rfl) rfl <| AJ_splitP 80 rfl Iff.rfl (fun hg10B hg10 => ?_) (fun hg10B hg10 => ?_)
      ·
       replace h := ite_t hg10 h
       refine aS 10 2047 rfl rfl (GY_no rfl rfl rfl hg10B) rfl <| aS 11 4095 rfl rfl (GY_no rfl rfl rfl hg10B) rfl <| aS 12 8191 rfl rfl (GY_no rfl rfl rfl hg10B) rfl <| aS 13 16383 rfl rfl (GY_no rfl rfl rfl hg10B) rfl <| aS 15 49151 rfl rfl (GY_no rfl rfl rfl hg10B) rfl <| aS 16 114687 rfl rfl (GY_no rfl rfl rfl hg10B) rfl <| aS 17 245759 rfl rfl (GY_no rfl rfl rfl hg10B) rfl <| aS 18 507903 rfl rfl (GY_no rfl rfl rfl hg10B) rfl <| aS 14 524287 rfl rfl (GY_no rfl rfl rfl hg10B) rfl <| aS 19 1048575 rfl rfl (GY_no rfl rfl rfl hg10B) rfl <| aS 20 2097151 rfl rfl (GY_no rfl rfl rfl hg10B) rfl <| aN 21 4194303 rfl rfl (P_pickT rfl hg10B rfl) rfl <| aD <| CJ_condT rfl rfl <| sR <| oA rfl rfl <| nT <| CJ_ret <| QJ_then_ret <| QJ_block_ret <| QJ_then_ret <| QJ_round_ret <| QJ_block_ret <| QJ_then_ret ?_
       have hE := Option.some.inj h
       replace hE := seq_inr hK13 hE.symm
       subst hE
       exact fE (res1 Try.results4 rfl) () (t4_ (eD (eD (eD (eD (eD eR))))))
      ·
       replace h := ite_f hg10 h
       refine aP 10 2047 rfl rfl (GY_yes rfl rfl rfl hg10B) (P_move rfl) rfl <| aP 11 4095 rfl rfl (GY_yes rfl rfl rfl hg10B) (P_move rfl) rfl <| aV 12 8191 rfl rfl (GY_yes rfl rfl rfl hg10B) eR (V_index (i := x22) rfl rfl rfl (by omega) foc5 (Reads.sl _ _ _) Try.runUnderlying36 Try.sizeOf24) rfl <| aV 13 16383 rfl rfl (GY_yes rfl rfl rfl hg10B) eR (V_loadEN rfl rfl (by omega) foc5 (Reads.sl _ _ _) rfl rfl Try.isAgg24 Try.sizeOf24) rfl ?_
       obtain ⟨w36, hw36, h⟩ := lt_e h
       rw [← hw36]
       refine aP 15 49151 rfl rfl (GY_yes rfl rfl rfl hg10B) (P_move rfl) rfl <| aP 16 114687 rfl rfl (GY_yes rfl rfl rfl hg10B) (P_move rfl) rfl <| aV 17 245759 rfl rfl (GY_yes rfl rfl rfl hg10B) eR (V_index (i := x22) rfl rfl rfl (by omega) foc5 (Reads.sl _ _ _) Try.runUnderlying36 Try.sizeOf24) rfl <| aV 18 507903 rfl rfl (GY_yes rfl rfl rfl hg10B) eR (V_loadEN rfl rfl (by omega) foc5 (Reads.sl _ _ _) rfl rfl Try.isAgg24 Try.sizeOf24) rfl ?_
       obtain ⟨w37, hw37, h⟩ := lt_e h
       rw [← hw37]
       obtain ⟨r38, hr39, h⟩ := bind_e h
       refine AJ_op 14 524287 rfl (by kernel_rfl) rfl (GY_yes rfl rfl rfl hg10B) <| O_call (L_label_Check hr39) rfl Try.call12 Dels.nil rfl fun _ _ => ⟨fun _ => eR, ?_⟩
       obtain ⟨r40, hr41, h⟩ := bind_e h
       refine AJ_op 19 1048575 rfl (by kernel_rfl) rfl (GY_yes rfl rfl rfl hg10B) <| O_call (L_volumegroupref11_Check hr41) rfl Try.call13 Dels.nil rfl fun _ _ => ⟨fun h => absurd h (by decide), ?_⟩
       refine aP 20 2097151 rfl rfl (GY_yes rfl rfl rfl hg10B) (P_neq (a := r38) (b := r40) rfl rfl) rfl <| aN 21 4194303 rfl rfl (P_pickF rfl hg10B rfl) rfl <| aD <| CJ_condP rfl bT_dec (fun hg11 => ?_) (fun hg11 => ?_)
       ·
        replace h := ite_t hg11 h
        refine sR <| oA rfl rfl <| nT <| CJ_ret <| QJ_then_ret <| QJ_block_ret <| QJ_then_ret <| QJ_round_ret <| QJ_block_ret <| QJ_then_ret ?_
        have hE := Option.some.inj h
        replace hE := seq_inr hK13 hE.symm
        subst hE
        exact fE (res1 Try.results4 rfl) () (t4_ (eD (eD (eD (eD (eD eR))))))
       ·
        replace h := ite_f hg11 h
        refine kT <| sR <| oM rfl rfl <| oP (P_eql (a := r27.2) (b := (0 : Int)) rfl rfl) rfl <| nT <| CJ_condP rfl bT_dec (fun hg12 => ?_) (fun hg12 => ?_)
        ·
         replace h := ite_t hg12 h
         refine sR <| oM rfl rfl ?_
         obtain ⟨hg13, h⟩ := grd_Le h
         refine RJ_ent (fun h hh => sl_nil (t := tyU) h hh) <| oO <| O_append (t := tyU) (bytes := 8) rfl rfl del0 foc0 (Reads.sl _ _ _) Try.underlying27 ok_tyU (apl (m := r32.1.length) (b := 8) hg13 (by decide)).1 (apl (m := r32.1.length) (b := 8) hg13 (by decide)).2 rfl fun p44 c45 => oA rfl rfl <| RJ_nil <| QJ_ent (t0_ (t0_ (t1_ (t1_ (t1_ (t1_ (eD eR))))))) <| QJ_then <| sR <| oM rfl rfl <| oM rfl rfl <| oP (P_rem_u8 (a := at_2) (b := (8 : UInt8)) rfl rfl (by decide)) rfl ?_
         obtain ⟨hg14, h⟩ := grd_de h
         refine oV (V_index (i := ((at_2 % (8 : UInt8))).toNat) rfl rfl rfl hg14 foc0 (Reads.sl _ _ _) Try.runUnderlying27 Try.sizeOf22) rfl <| oV (V_loadE rfl rfl hg14 foc0 (Reads.sl _ _ _) rfl rfl Try.isAgg22) rfl <| oM rfl rfl <| oP (P_xor_u64 (a := (([] ++ r32.1).getD (((at_2 % (8 : UInt8))).toNat) 0)) (b := x_3) rfl rfl) rfl ?_
         obtain ⟨hg15, h⟩ := grd_de h
         refine oV (V_index (i := ((at_2 % (8 : UInt8))).toNat) rfl rfl rfl hg15 foc0 (Reads.sl _ _ _) Try.runUnderlying27 Try.sizeOf22) rfl <| oO <| O_storeE (x' := ((([] ++ r32.1).getD (((at_2 % (8 : UInt8))).toNat) 0) ^^^ x_3)) rfl rfl rfl hg15 foc0 rfl rfl rfl Try.sizeOf22 <| nT <| CJ_region <| oM rfl rfl <| oM rfl rfl <| oM rfl rfl <| oM rfl rfl ?_
         obtain ⟨hg16, h⟩ := grd_de h
         refine oV (V_slice (l := 0) (h := 7) rfl foc1 (Reads.sl _ _ _) rfl ⟨_, rfl⟩ (by omega) (by omega) Try.underlying27 Try.sizeOf22) rfl <| oO <| O_buildSlice rfl (bs_37_3_0_1_2 _ _ _ _ _ _ _ _ _) rfl fun b46 => RJ_ent (Ent.trans (t0_ eR) (sl_of_lit (t := tyRow) (m := 3) [(X34 : Sl3), (⟨p44, ([] ++ r32.1).length, c45⟩ : Sl3), (Sl3.sub tyU.sz (X34 : Sl3) 0 7)] rfl rfl rfl (by decide))) <| RJ_shareS del2 <| RJ_ent (Ent.trans (t0_ eR) (fun h hh => stars_dup Dup.slR hh)) <| RJ_ent (Ent.take1 del0 (RowP_of (h := (X34 : Sl3)) Dup.slR (Reads.slR _ _ _)) eR) <| RJ_shareS del3 <| RJ_ent (Ent.trans (t0_ eR) (fun h hh => stars_dup Dup.slR hh)) <| RJ_ent (Ent.take1 del0 (RowP_of (h := (⟨p44, ([] ++ r32.1).length, c45⟩ : Sl3)) Dup.slR (Reads.slR _ _ _)) eR) <| RJ_ent (Ent.trans (t3_ eR) (fun h hh => stars_dup Dup.slR hh)) <| RJ_ent (Ent.take1 del0 (RowP_of (h := (Sl3.sub tyU.sz (X34 : Sl3) 0 7)) Dup.slR (Reads.sliceV (l := 0) (h := 7) (Reads.slR _ _ _) (by omega) (by omega))) eR) <| RJ_ent (fun h hh => rs_nil (RP := RowP) h hh) <| RJ_ent (Ent.trans (t0_ (t4_ eR)) (Rs_push (x := r32.1) (g := (X34 : Sl3)) Dup_RowP)) <| RJ_ent (Ent.trans (t0_ (t3_ eR)) (Rs_push (x := (([] ++ r32.1).set (((at_2 % (8 : UInt8))).toNat) (((([] ++ r32.1).getD (((at_2 % (8 : UInt8))).toNat) 0) ^^^ x_3)))) (g := (⟨p44, ([] ++ r32.1).length, c45⟩ : Sl3)) Dup_RowP)) ?_
         refine RJ_ent (Ent.trans (t0_ (t2_ eR)) (Rs_push (x := ((r32.1.take 7).drop 0)) (g := (Sl3.sub tyU.sz (X34 : Sl3) 0 7)) Dup_RowP)) <| RJ_ent (Ent.takeC (A' := Rs RowP (([r32.1, (([] ++ r32.1).set (((at_2 % (8 : UInt8))).toNat) (((([] ++ r32.1).getD (((at_2 % (8 : UInt8))).toNat) 0) ^^^ x_3))), ((r32.1.take 7).drop 0)] : List (List UInt64))) ([(X34 : Sl3), (⟨p44, ([] ++ r32.1).length, c45⟩ : Sl3), (Sl3.sub tyU.sz (X34 : Sl3) 0 7)])) del0 rfl eR) ?_
         obtain ⟨hg17, h⟩ := grd_Le h
         refine oO <| O_append (t := tyRow) (bytes := 24) rfl rfl del7 foc6 (Reads.sl _ _ _) Try.underlying37 ok_tyRow (apl (m := 3) (b := 24) (by have hz : _ ≤ 1000000000 := hg17; have := hdl24; omega) (by decide)).1 (apl (m := 3) (b := 24) (by have hz : _ ≤ 1000000000 := hg17; have := hdl24; omega) (by decide)).2 rfl fun p52 c53 => RJ_ent (Ent.trans (t8_ (t1_ eR)) (Rs_append Dup_RowP)) <| RJ_pure (fun h hh => Rs_len (stars_perm (del0 (A := Rs RowP ((x19 ++ ([r32.1, (([] ++ r32.1).set (((at_2 % (8 : UInt8))).toNat) (((([] ++ r32.1).getD (((at_2 % (8 : UInt8))).toNat) 0) ^^^ x_3))), ((r32.1.take 7).drop 0)] : List (List UInt64)))) ((hs21 ++ [(X34 : Sl3), (⟨p44, ([] ++ r32.1).length, c45⟩ : Sl3), (Sl3.sub tyU.sz (X34 : Sl3) 0 7)])))).out h hh)) fun hdl54 => oA rfl rfl <| RJ_nil <| QJ_block_normal <| QJ_ent (t0_ (t1_ (t7_ (t7_ (eD (eD (eD (eD (eD (eD (eD eR))))))))))) <| QJ_then <| CJ_region <| oM rfl rfl ?_
         obtain ⟨hg18, h⟩ := grd_Ne h
         exact oP (PJ_eq (P_add (a := ((x22 : Nat) : Int)) (b := (1 : Int)) rfl rfl (nat_in hg18)) rfl) rfl <| oA rfl rfl <| RJ_nil <| nR ⟨n, (x19 ++ ([r32.1, (([] ++ r32.1).set (((at_2 % (8 : UInt8))).toNat) (((([] ++ r32.1).getD (((at_2 % (8 : UInt8))).toNat) 0) ^^^ x_3))), ((r32.1.take 7).drop 0)] : List (List UInt64))), (x22 + 1), ⟨p52, (hs21 ++ [(X34 : Sl3), (⟨p44, ([] ++ r32.1).length, c45⟩ : Sl3), (Sl3.sub tyU.sz (X34 : Sl3) 0 7)]).length, c53⟩, (hs21 ++ [(X34 : Sl3), (⟨p44, ([] ++ r32.1).length, c45⟩ : Sl3), (Sl3.sub tyU.sz (X34 : Sl3) 0 7)])⟩ h ⟨rfl, rfl, True.intro⟩ (t1_ eR)
        ·
         replace h := ite_f hg12 h
         refine CJ_skip <| QJ_block_normal <| QJ_then <| CJ_region <| oM rfl rfl ?_
         obtain ⟨hg19, h⟩ := grd_Ne h
         exact oP (PJ_eq (P_add (a := ((x22 : Nat) : Int)) (b := (1 : Int)) rfl rfl (nat_in hg19)) rfl) rfl <| oA rfl rfl <| RJ_nil <| nR ⟨n, x19, (x22 + 1), hd20, hs21⟩ h ⟨rfl, rfl, True.intro⟩ (t2_ (t2_ (t2_ (t2_ (eD (eD eR))))))
     ·
      replace h := ite_f hg9 h
      refine aP 4 31 rfl rfl (GY_yes rfl rfl rfl hg9B) (P_move rfl) rfl <| aP 5 63 rfl rfl (GY_yes rfl rfl rfl hg9B) (P_move rfl) rfl ?_
      obtain ⟨r55, hr56, h⟩ := bind_e h
      refine AJ_op 6 127 rfl (by kernel_rfl) rfl (GY_yes rfl rfl rfl hg9B) <| O_call (L_volumegroupref02_Same (Reads.recast (t := tyA62) (t' := tyU) (Reads.sl _ _ _) rfl rfl rfl) (Reads.sl _ _ _) hr56) rfl Try.call9 (Dels.cons del1 (Dels.cons del0 Dels.nil)) rfl fun _ _ => ⟨fun _ => (t1_ eR), ?_⟩
      refine aP 7 255 rfl rfl (GY_yes rfl rfl rfl hg9B) (P_not rfl) rfl <| aN 8 511 rfl rfl (P_pickF rfl hg9B rfl) rfl <| aN 9 1023 rfl rfl (P_move rfl) rfl <| AJ_splitP 80 rfl (bT_not Iff.rfl) (fun hg20B hg20 => ?_) (fun hg20B hg20 => ?_)
      ·
       replace h := ite_t hg20 h
       refine aS 10 2047 rfl rfl (GY_no rfl rfl rfl hg20B) rfl <| aS 11 4095 rfl rfl (GY_no rfl rfl rfl hg20B) rfl <| aS 12 8191 rfl rfl (GY_no rfl rfl rfl hg20B) rfl <| aS 13 16383 rfl rfl (GY_no rfl rfl rfl hg20B) rfl <| aS 15 49151 rfl rfl (GY_no rfl rfl rfl hg20B) rfl <| aS 16 114687 rfl rfl (GY_no rfl rfl rfl hg20B) rfl <| aS 17 245759 rfl rfl (GY_no rfl rfl rfl hg20B) rfl <| aS 18 507903 rfl rfl (GY_no rfl rfl rfl hg20B) rfl <| aS 14 524287 rfl rfl (GY_no rfl rfl rfl hg20B) rfl <| aS 19 1048575 rfl rfl (GY_no rfl rfl rfl hg20B) rfl <| aS 20 2097151 rfl rfl (GY_no rfl rfl rfl hg20B) rfl <| aN 21 4194303 rfl rfl (P_pickT rfl hg20B rfl) rfl <| aD <| CJ_condT rfl rfl <| sR <| oA rfl rfl <| nT <| CJ_ret <| QJ_then_ret <| QJ_block_ret <| QJ_then_ret <| QJ_round_ret <| QJ_block_ret <| QJ_then_ret ?_
       have hE := Option.some.inj h
       replace hE := seq_inr hK13 hE.symm
       subst hE
       exact fE (res1 Try.results4 rfl) () (t4_ (eD (eD (eD (eD (eD eR))))))
      ·
       replace h := ite_f hg20 h
       refine aP 10 2047 rfl rfl (GY_yes rfl rfl rfl hg20B) (P_move rfl) rfl <| aP 11 4095 rfl rfl (GY_yes rfl rfl rfl hg20B) (P_move rfl) rfl <| aV 12 8191 rfl rfl (GY_yes rfl rfl rfl hg20B) (t1_ eR) (V_index (i := x22) rfl rfl rfl (by omega) foc5 (Reads.sl _ _ _) Try.runUnderlying36 Try.sizeOf24) rfl <| aV 13 16383 rfl rfl (GY_yes rfl rfl rfl hg20B) (t1_ eR) (V_loadEN rfl rfl (by omega) foc5 (Reads.sl _ _ _) rfl rfl Try.isAgg24 Try.sizeOf24) rfl ?_
       obtain ⟨w57, hw57, h⟩ := lt_e h
       rw [← hw57]
       refine aP 15 49151 rfl rfl (GY_yes rfl rfl rfl hg20B) (P_move rfl) rfl <| aP 16 114687 rfl rfl (GY_yes rfl rfl rfl hg20B) (P_move rfl) rfl <| aV 17 245759 rfl rfl (GY_yes rfl rfl rfl hg20B) (t1_ eR) (V_index (i := x22) rfl rfl rfl (by omega) foc5 (Reads.sl _ _ _) Try.runUnderlying36 Try.sizeOf24) rfl <| aV 18 507903 rfl rfl (GY_yes rfl rfl rfl hg20B) (t1_ eR) (V_loadEN rfl rfl (by omega) foc5 (Reads.sl _ _ _) rfl rfl Try.isAgg24 Try.sizeOf24) rfl ?_
       obtain ⟨w58, hw58, h⟩ := lt_e h
       rw [← hw58]
       obtain ⟨r59, hr60, h⟩ := bind_e h
       refine AJ_op 14 524287 rfl (by kernel_rfl) rfl (GY_yes rfl rfl rfl hg20B) <| O_call (L_label_Check hr60) rfl Try.call12 Dels.nil rfl fun _ _ => ⟨fun _ => (t1_ eR), ?_⟩
       obtain ⟨r61, hr62, h⟩ := bind_e h
       refine AJ_op 19 1048575 rfl (by kernel_rfl) rfl (GY_yes rfl rfl rfl hg20B) <| O_call (L_volumegroupref11_Check hr62) rfl Try.call13 Dels.nil rfl fun _ _ => ⟨fun h => absurd h (by decide), ?_⟩
       refine aP 20 2097151 rfl rfl (GY_yes rfl rfl rfl hg20B) (P_neq (a := r59) (b := r61) rfl rfl) rfl <| aN 21 4194303 rfl rfl (P_pickF rfl hg20B rfl) rfl <| aD <| CJ_condP rfl bT_dec (fun hg21 => ?_) (fun hg21 => ?_)
       ·
        replace h := ite_t hg21 h
        refine sR <| oA rfl rfl <| nT <| CJ_ret <| QJ_then_ret <| QJ_block_ret <| QJ_then_ret <| QJ_round_ret <| QJ_block_ret <| QJ_then_ret ?_
        have hE := Option.some.inj h
        replace hE := seq_inr hK13 hE.symm
        subst hE
        exact fE (res1 Try.results4 rfl) () (t4_ (eD (eD (eD (eD (eD eR))))))
       ·
        replace h := ite_f hg21 h
        refine kT <| sR <| oM rfl rfl <| oP (P_eql (a := r27.2) (b := (0 : Int)) rfl rfl) rfl <| nT <| CJ_condP rfl bT_dec (fun hg22 => ?_) (fun hg22 => ?_)
        ·
         replace h := ite_t hg22 h
         refine sR <| oM rfl rfl ?_
         obtain ⟨hg23, h⟩ := grd_Le h
         refine RJ_ent (fun h hh => sl_nil (t := tyU) h hh) <| oO <| O_append (t := tyU) (bytes := 8) rfl rfl del0 foc1 (Reads.sl _ _ _) Try.underlying27 ok_tyU (apl (m := r32.1.length) (b := 8) hg23 (by decide)).1 (apl (m := r32.1.length) (b := 8) hg23 (by decide)).2 rfl fun p65 c66 => oA rfl rfl <| RJ_nil <| QJ_ent (t0_ (t1_ (t1_ (t1_ (t1_ (t1_ (eD eR))))))) <| QJ_then <| sR <| oM rfl rfl <| oM rfl rfl <| oP (P_rem_u8 (a := at_2) (b := (8 : UInt8)) rfl rfl (by decide)) rfl ?_
         obtain ⟨hg24, h⟩ := grd_de h
         refine oV (V_index (i := ((at_2 % (8 : UInt8))).toNat) rfl rfl rfl hg24 foc0 (Reads.sl _ _ _) Try.runUnderlying27 Try.sizeOf22) rfl <| oV (V_loadE rfl rfl hg24 foc0 (Reads.sl _ _ _) rfl rfl Try.isAgg22) rfl <| oM rfl rfl <| oP (P_xor_u64 (a := (([] ++ r32.1).getD (((at_2 % (8 : UInt8))).toNat) 0)) (b := x_3) rfl rfl) rfl ?_
         obtain ⟨hg25, h⟩ := grd_de h
         refine oV (V_index (i := ((at_2 % (8 : UInt8))).toNat) rfl rfl rfl hg25 foc0 (Reads.sl _ _ _) Try.runUnderlying27 Try.sizeOf22) rfl <| oO <| O_storeE (x' := ((([] ++ r32.1).getD (((at_2 % (8 : UInt8))).toNat) 0) ^^^ x_3)) rfl rfl rfl hg25 foc0 rfl rfl rfl Try.sizeOf22 <| nT <| CJ_region <| oM rfl rfl <| oM rfl rfl <| oM rfl rfl <| oM rfl rfl ?_
         obtain ⟨hg26, h⟩ := grd_de h
         refine oV (V_slice (l := 0) (h := 7) rfl foc1 (Reads.sl _ _ _) rfl ⟨_, rfl⟩ (by omega) (by omega) Try.underlying27 Try.sizeOf22) rfl <| oO <| O_buildSlice rfl (bs_37_3_0_1_2 _ _ _ _ _ _ _ _ _) rfl fun b67 => RJ_ent (Ent.trans (t0_ eR) (sl_of_lit (t := tyRow) (m := 3) [(X34 : Sl3), (⟨p65, ([] ++ r32.1).length, c66⟩ : Sl3), (Sl3.sub tyU.sz (X34 : Sl3) 0 7)] rfl rfl rfl (by decide))) <| RJ_shareS del2 <| RJ_ent (Ent.trans (t0_ eR) (fun h hh => stars_dup Dup.slR hh)) <| RJ_ent (Ent.take1 del0 (RowP_of (h := (X34 : Sl3)) Dup.slR (Reads.slR _ _ _)) eR) <| RJ_shareS del3 <| RJ_ent (Ent.trans (t0_ eR) (fun h hh => stars_dup Dup.slR hh)) <| RJ_ent (Ent.take1 del0 (RowP_of (h := (⟨p65, ([] ++ r32.1).length, c66⟩ : Sl3)) Dup.slR (Reads.slR _ _ _)) eR) <| RJ_ent (Ent.trans (t3_ eR) (fun h hh => stars_dup Dup.slR hh)) <| RJ_ent (Ent.take1 del0 (RowP_of (h := (Sl3.sub tyU.sz (X34 : Sl3) 0 7)) Dup.slR (Reads.sliceV (l := 0) (h := 7) (Reads.slR _ _ _) (by omega) (by omega))) eR) <| RJ_ent (fun h hh => rs_nil (RP := RowP) h hh) <| RJ_ent (Ent.trans (t0_ (t4_ eR)) (Rs_push (x := r32.1) (g := (X34 : Sl3)) Dup_RowP)) <| RJ_ent (Ent.trans (t0_ (t3_ eR)) (Rs_push (x := (([] ++ r32.1).set (((at_2 % (8 : UInt8))).toNat) (((([] ++ r32.1).getD (((at_2 % (8 : UInt8))).toNat) 0) ^^^ x_3)))) (g := (⟨p65, ([] ++ r32.1).length, c66⟩ : Sl3)) Dup_RowP)) ?_
         refine RJ_ent (Ent.trans (t0_ (t2_ eR)) (Rs_push (x := ((r32.1.take 7).drop 0)) (g := (Sl3.sub tyU.sz (X34 : Sl3) 0 7)) Dup_RowP)) <| RJ_ent (Ent.takeC (A' := Rs RowP (([r32.1, (([] ++ r32.1).set (((at_2 % (8 : UInt8))).toNat) (((([] ++ r32.1).getD (((at_2 % (8 : UInt8))).toNat) 0) ^^^ x_3))), ((r32.1.take 7).drop 0)] : List (List UInt64))) ([(X34 : Sl3), (⟨p65, ([] ++ r32.1).length, c66⟩ : Sl3), (Sl3.sub tyU.sz (X34 : Sl3) 0 7)])) del0 rfl eR) ?_
         obtain ⟨hg27, h⟩ := grd_Le h
         refine oO <| O_append (t := tyRow) (bytes := 24) rfl rfl del7 foc6 (Reads.sl _ _ _) Try.underlying37 ok_tyRow (apl (m := 3) (b := 24) (by have hz : _ ≤ 1000000000 := hg27; have := hdl24; omega) (by decide)).1 (apl (m := 3) (b := 24) (by have hz : _ ≤ 1000000000 := hg27; have := hdl24; omega) (by decide)).2 rfl fun p73 c74 => RJ_ent (Ent.trans (t8_ (t1_ eR)) (Rs_append Dup_RowP)) <| RJ_pure (fun h hh => Rs_len (stars_perm (del0 (A := Rs RowP ((x19 ++ ([r32.1, (([] ++ r32.1).set (((at_2 % (8 : UInt8))).toNat) (((([] ++ r32.1).getD (((at_2 % (8 : UInt8))).toNat) 0) ^^^ x_3))), ((r32.1.take 7).drop 0)] : List (List UInt64)))) ((hs21 ++ [(X34 : Sl3), (⟨p65, ([] ++ r32.1).length, c66⟩ : Sl3), (Sl3.sub tyU.sz (X34 : Sl3) 0 7)])))).out h hh)) fun hdl75 => oA rfl rfl <| RJ_nil <| QJ_block_normal <| QJ_ent (t0_ (t1_ (t7_ (t7_ (eD (eD (eD (eD (eD (eD (eD eR))))))))))) <| QJ_then <| CJ_region <| oM rfl rfl ?_
         obtain ⟨hg28, h⟩ := grd_Ne h
         exact oP (PJ_eq (P_add (a := ((x22 : Nat) : Int)) (b := (1 : Int)) rfl rfl (nat_in hg28)) rfl) rfl <| oA rfl rfl <| RJ_nil <| nR ⟨n, (x19 ++ ([r32.1, (([] ++ r32.1).set (((at_2 % (8 : UInt8))).toNat) (((([] ++ r32.1).getD (((at_2 % (8 : UInt8))).toNat) 0) ^^^ x_3))), ((r32.1.take 7).drop 0)] : List (List UInt64))), (x22 + 1), ⟨p73, (hs21 ++ [(X34 : Sl3), (⟨p65, ([] ++ r32.1).length, c66⟩ : Sl3), (Sl3.sub tyU.sz (X34 : Sl3) 0 7)]).length, c74⟩, (hs21 ++ [(X34 : Sl3), (⟨p65, ([] ++ r32.1).length, c66⟩ : Sl3), (Sl3.sub tyU.sz (X34 : Sl3) 0 7)])⟩ h ⟨rfl, rfl, True.intro⟩ (t1_ eR)
        ·
         replace h := ite_f hg22 h
         refine CJ_skip <| QJ_block_normal <| QJ_then <| CJ_region <| oM rfl rfl ?_
         obtain ⟨hg29, h⟩ := grd_Ne h
         exact oP (PJ_eq (P_add (a := ((x22 : Nat) : Int)) (b := (1 : Int)) rfl rfl (nat_in hg29)) rfl) rfl <| oA rfl rfl <| RJ_nil <| nR ⟨n, x19, (x22 + 1), hd20, hs21⟩ h ⟨rfl, rfl, True.intro⟩ (t2_ (t2_ (t2_ (t2_ (eD (eD eR))))))
    ·
     replace h := ite_f hg8 h
     exact CJ_exit <| QJ_then_exit <| QJ_round_exit <| QJ_block_here <| cR ⟨x19, hd20, hs21⟩ (Option.some.inj h).symm ⟨rfl, True.intro⟩ eR
  ·
   rintro ⟨a18, hd16, hs17⟩ hy76
   replace h := seq_inl hK13 hy76
   show CJ _ _ _ _ _ (([(11, hd16.v)] : Slots) ++ forget _ _) (sl tyRow hd16.v hs17 :: Rs RowP a18 hs17 :: _)
   refine lC del0 fun hlen77 => CJ_pure (fun h hh => Rs_len (stars_perm (del1 (A := Rs RowP a18 hs17)).out h hh)) fun hdl78 => CJ_seq <| sR <| oA rfl rfl <| nT ?_
   obtain ⟨y81, hl79, hK80⟩ := seq_e h
   refine CJ_cutT (X := Unit) [8, 18, 19, 20, 21, 22, 112, 113, 114, 115, 116, 117, 118, 119, 120, 121, 122, 123, 124, 125, 126, 127, 128, 129, 130, 131, 132, 133, 134, 135, 136, 137, 138, 139, 140, 141] (fun _ => ([] : Slots)) (fun _ R => R) (fun _ => y81 = .inl ()) Dels.nil ?_ ?_
   ·
    refine CJ_block <| CJ_loopR (X := Nat × Nat) [8, 18, 19, 20, 21, 22, 112, 113, 114, 115, 116, 117, 118, 119, 120, 121, 122, 123, 124, 125, 126, 127, 128, 129, 130, 131, 132, 133, 134, 135, 136, 137, 138, 139, 140, 141] (fun ⟨n, x83⟩ => ([(18, .int .i64 (((x83 : Nat) : Int)))] : Slots)) (fun ⟨n, x83⟩ R => R) (fun ⟨n, x83⟩ => volumegrouplaw11_LabelWords_l2 a18 n x83 = some y81) (fun ⟨n, x83⟩ => n) ⟨FUEL, 0⟩ ?_ ?_ eR ?_
    · exact hl79
    · exact ⟨rfl, True.intro⟩
    ·
     rintro ⟨n, x83⟩ h
     cases n with
     | zero => exact none_e h
     | succ n => ?_
     replace h : volumegrouplaw11_LabelWords_l2_b a18 (volumegrouplaw11_LabelWords_l2 a18 n) x83 = some y81 := h
     unfold volumegrouplaw11_LabelWords_l2_b at h
     show CJ _ _ _ _ _ (([(18, .int .i64 (((x83 : Nat) : Int)))] : Slots) ++ forget _ _) (_)
     refine CJ_seq <| sR <| oM rfl rfl <| oM rfl rfl <| oV (VJ_eq (V_len rfl foc0 (Reads.sl _ _ _) Try.runUnderlying37) (congrArg (fun z : Nat => Value.int .i64 (z : Int)) (hdl78).symm)) rfl <| oP (P_lss (a := ((x83 : Nat) : Int)) (b := ((a18.length : Nat) : Int)) rfl rfl) rfl <| nT <| CJ_condP rfl bT_dec (fun hg30 => ?_) (fun hg30 => ?_)
     ·
      replace h := ite_t hg30 h
      refine kT <| CJ_seq <| CJ_block <| sR <| oM rfl rfl <| oM rfl rfl <| oV (V_index (i := x83) rfl rfl rfl (by have hz : x83 < a18.length := (by omega); have hy := hdl78; omega) foc0 (Reads.sl _ _ _) Try.runUnderlying37 Try.sizeOf27) rfl <| oV (V_loadE rfl rfl (by have hz : x83 < a18.length := (by omega); have hy := hdl78; omega) foc0 (Reads.sl _ _ _) rfl rfl Try.isAgg27) rfl ?_
      obtain ⟨r84, hr85, h⟩ := bind_e h
      refine oO <| O_call (L_label_FromWords ((RowsR.rs hdl78).2 _ (by omega)) hr85) rfl Try.call10 (Dels.cons del1 Dels.nil) rfl fun _ _ => oM rfl rfl <| oP (P_extract rfl rfl) rfl <| oP (P_extract rfl rfl) rfl <| oO <| O_alloc Try.zeroValue24 rfl rfl fun b86 => oO <| O_storeN rfl rfl foc0 Try.sizeOf24 rfl rfl rfl <| oA rfl rfl <| nT <| sR <| oM rfl rfl <| oM rfl rfl <| oV (V_index (i := x83) rfl rfl rfl (by have hz : x83 < a18.length := (by omega); have hy := hdl78; omega) foc2 (Reads.sl _ _ _) Try.runUnderlying37 Try.sizeOf27) rfl <| oV (V_loadE rfl rfl (by have hz : x83 < a18.length := (by omega); have hy := hdl78; omega) foc2 (Reads.sl _ _ _) rfl rfl Try.isAgg27) rfl ?_
      obtain ⟨r87, hr88, h⟩ := bind_e h
      refine oO <| O_call (L_volumegroupref11_FromWords ((RowsR.rs hdl78).2 _ (by omega)) hr88) rfl Try.call14 (Dels.cons del1 Dels.nil) rfl fun _ _ => oM rfl rfl <| oP (P_extract rfl rfl) rfl <| oP (P_extract rfl rfl) rfl <| oO <| O_alloc Try.zeroValue24 rfl rfl fun b89 => oO <| O_storeN rfl rfl foc0 Try.sizeOf24 rfl rfl rfl <| oA rfl rfl <| nT <| sR <| oM rfl rfl <| oM rfl rfl <| oP (P_neq (a := r84.2) (b := r87.2) rfl rfl) rfl <| oM rfl rfl <| RJ_mbF rfl rfl rfl (fun hG90 => have hP91 : ¬ (r84.2 ≠ r87.2) := nP (bT_dec) hG90; V_loadN rfl foc2 Try.isAgg24 Try.sizeOf24 rfl rfl) <| RJ_mbF rfl rfl rfl (fun hG92 => have hP93 : ¬ (r84.2 ≠ r87.2) := nP (bT_dec) hG92; V_loadN rfl foc0 Try.isAgg24 Try.sizeOf24 rfl rfl) <| RJ_mbF rfl rfl rfl (fun hG94 => have hP95 : ¬ (r84.2 ≠ r87.2) := nP (bT_dec) hG94; VJ_P (P_neqS (enc := (tyapi_Label).enc) (r84.1) (r87.1) (mbx hG94 rfl) (mbx hG94 rfl) eqs_24 (by kernel_rfl))) <| oP (P_pickOr rfl rfl (fun hh => mbx (not_f hh) rfl)) rfl <| nT <| CJ_condP rfl (bT_or bT_dec bT_dec) (fun hg31 => ?_) (fun hg31 => ?_)
      ·
       replace h := ite_t hg31 h
       refine sR <| oA rfl rfl <| nT <| CJ_ret <| QJ_block_ret <| QJ_then_ret <| QJ_round_ret <| QJ_block_ret <| QJ_then_ret ?_
       have hE := Option.some.inj h
       replace hE := seq_inr hK80 hE.symm
       subst hE
       exact fE (res1 Try.results4 rfl) () (t4_ (eD (eD (eD (eD (eD eR))))))
      ·
       replace h := ite_f hg31 h
       exact CJ_skip <| QJ_block_normal <| QJ_then <| CJ_region <| oM rfl rfl <| oP (PJ_eq (P_add (a := ((x83 : Nat) : Int)) (b := (1 : Int)) rfl rfl (by omega)) rfl) rfl <| oA rfl rfl <| RJ_nil <| nR ⟨n, (x83 + 1)⟩ h ⟨rfl, True.intro⟩ (t3_ (t1_ (t2_ (t2_ (eD (eD eR))))))
     ·
      replace h := ite_f hg30 h
      exact CJ_exit <| QJ_then_exit <| QJ_round_exit <| QJ_block_here <| cR () (Option.some.inj h).symm True.intro eR
   ·
    rintro _ hy96
    replace h := seq_inl hK80 hy96
    show CJ _ _ _ _ _ (([] : Slots) ++ forget _ _) (_)
    refine sR ?_
    obtain ⟨r97, hr98, h⟩ := bind_e h
    refine oO <| O_call (L_volumegrouplaw11_awake hr98) rfl Try.call8 Dels.nil rfl fun _ _ => oA rfl rfl <| nT <| CJ_ret ?_
    cases h
    exact fE (res1 Try.results4 rfl) () (t2_ (eD (eD (eD eR))))
end Go.Proofs
namespace Go.Proofs
open Go.VG
theorem from_same (w : List UInt64) : ∃ r, label_FromWords w = some r ∧ volumegroupref11_FromWords w = some r := by
  by_cases h : w.length = 8
  · rw [eight h]; exact ⟨_, from_eq _, rfrom_eq _⟩
  · exact ⟨_, (from_len h).1, (from_len h).2⟩
theorem lw_l2 (a : List (List UInt64)) : ∀ (N i : Nat), a.length - i < N → volumegrouplaw11_LabelWords_l2 a N i = some (.inl ())
  | 0, _, h => absurd h (by omega)
  | N + 1, i, h => by
    show volumegrouplaw11_LabelWords_l2_b _ _ _ = _
    unfold volumegrouplaw11_LabelWords_l2_b
    by_cases hlt : i < a.length
    · rw [if_pos (by omega)]
      obtain ⟨r, h1, h2⟩ := from_same (a.getD i [])
      rw [h1, h2]; simp only [Option.bind_some]
      rw [if_neg (by rintro (h | h) <;> exact h rfl)]
      exact lw_l2 a N (i + 1) (by omega)
    · rw [if_neg (by omega)]
theorem lw_step (l : api_Label) (u : UInt8) (x : UInt64) (N i : Nat) (xs : List (List UInt64)) (hi : i < 2) (hx : xs.length ≤ 100) : ∃ ys : List (List UInt64), ys.length ≤ xs.length + 3 ∧
    volumegrouplaw11_LabelWords_l1 l u x (N + 1) xs i = volumegrouplaw11_LabelWords_l1 l u x N ys (i + 1) := by
  have e : volumegrouplaw11_LabelWords_l1 l u x (N + 1) xs i = volumegrouplaw11_LabelWords_l1_b l u x (volumegrouplaw11_LabelWords_l1 l u x N) xs i := rfl
  rw [e]
  unfold volumegrouplaw11_LabelWords_l1_b
  simp only [lt]
  rw [if_pos (by simp only [List.length_cons, List.length_nil]; omega)]
  generalize (List.getD [_, _] i _ : api_Label) = m
  by_cases hk : LabOk m
  · rw [words_ok hk, rwords_ok hk]; simp only [Option.bind_some]
    rw [if_neg (by simp), same02_eq (show (labL m).length ≤ _ by show 8 ≤ _; omega)]; simp only [Option.bind_some]
    rw [if_neg (by simp), check_ok hk, rcheck_ok hk]; simp only [Option.bind_some]
    rw [if_neg (by simp), if_pos (by first | trivial | rfl)]
    have h8 : (labL m).length = 8 := rfl
    have hu : (u % 8).toNat < 8 := by rw [UInt8.toNat_mod]; exact Nat.mod_lt _ (by decide)
    rw [grd_pos (inLen_of (by rw [h8]; omega)), List.nil_append, grd_pos (decide_eq_true (by rw [h8]; exact hu)), grd_pos (decide_eq_true (by rw [h8]; exact hu)), grd_pos (decide_eq_true (by rw [h8]; omega)), grd_pos (inLen_of (by omega)), grd_pos (inN64_iff.2 (by omega))]
    exact ⟨_, by simp, rfl⟩
  · rw [words_no hk, rwords_no hk]; simp only [Option.bind_some]
    rw [if_neg (by simp), same02_eq (by simp)]; simp only [Option.bind_some]
    rw [if_neg (by simp), check_no hk, rcheck_no hk]; simp only [Option.bind_some]
    rw [if_neg (by simp), if_neg (by decide), grd_pos (inN64_iff.2 (by omega))]
    exact ⟨xs, by omega, rfl⟩
theorem lw_l1 (l : api_Label) (u : UInt8) (x : UInt64) (N : Nat) (xs : List (List UInt64)) (hx : xs.length ≤ 50) : ∃ ys : List (List UInt64), ys.length ≤ xs.length + 6 ∧ volumegrouplaw11_LabelWords_l1 l u x (N + 3) xs 0 = some (.inl ys) := by
  obtain ⟨ys, h1, e1⟩ := lw_step l u x (N + 2) 0 xs (by omega) (by omega)
  obtain ⟨zs, h2, e2⟩ := lw_step l u x (N + 1) 1 ys (by omega) (by omega)
  refine ⟨zs, by omega, ?_⟩
  rw [e1, e2]
  rfl
theorem PLabelWords (l : api_Label) (w : List UInt64) (a : UInt8) (x : UInt64) : volumegrouplaw11_LabelWords l w a x = some true := by
  have b1 := andI_bd l.Size 63 (by decide) (by decide)
  have b2 := andI_bd l.Start 15 (by decide) (by decide)
  have b3 := andI_bd l.Area 15 (by decide) (by decide)
  unfold volumegrouplaw11_LabelWords
  split
  · rw [awake11]; rfl
  · rw [grd_pos (inI64_of (by omega)), grd_pos (inI64_of (by omega)), grd_pos (inI64_of (by omega))]
    have hF := fuel_big
    generalize FUEL = N at hF ⊢
    obtain ⟨M, rfl⟩ : ∃ M, N = M + 3 := ⟨N - 3, by omega⟩
    obtain ⟨ys, h1, e1⟩ := lw_l1 l a x M [w] (by simp)
    rw [e1]
    simp only [seqO]
    simp only [List.length_cons, List.length_nil] at h1
    simp only [Option.bind_some, Sum.elim_inl]
    rw [lw_l2 ys (M + 3) 0 (by omega)]
    simp only [Option.bind_some, Sum.elim_inl]
    rw [awake11]; rfl
end Go.Proofs
