/- Devices whose sectors are sectors of an array's disks. -/
import Derived.Test.YthadblmhhekedaaPConcat
import Derived.Test.YthadblmhhekedaaPWindow
import Derived.Test.YthadblmhhekedaaPArr
namespace Go.Proofs
open Go.VG
/-- An array with disks of these sizes, not used too often. -/
structure InSz (ns : List Nat) (s : ArrS) : Prop where
  cnt : s.drv.length = ns.length
  size : ∀ d, d < ns.length → s.size d = ns.getD d 0
  wr : s.writes ≤ 1000000000
theorem flS_drv {s : ArrS} {d : Nat} : (flS s d).drv.length = s.drv.length := by unfold flS; split <;> simp
theorem flS_writes {s : ArrS} {d : Int} : (flS s d).writes = s.writes := by unfold flS; split <;> rfl
theorem flS_size {s : ArrS} {d e : Nat} : (flS s d).size e = s.size e := by
  unfold flS; split
  · rfl
  · rename_i h
    have hd : d < s.drv.length := by
      rcases Nat.lt_or_ge d s.drv.length with h' | h'
      · exact h'
      · exfalso; apply h
        have : cLoc s (d : Int) = 1 := by rw [cLoc, if_neg (fun x : inR s (d : Int) => by have := x.2; omega)]
        intro h0
        have h1 := h0
        unfold flC fz at h1
        by_cases hp : cPow s = 0
        · simp [hp, fz, this] at h1
        · simp [hp] at h1
    exact size_fl1 (s := s) hd
theorem InSz.flS {ns : List Nat} {s : ArrS} (h : InSz ns s) (d : Nat) : InSz ns (flS s d) := ⟨by rw [flS_drv]; exact h.cnt, fun e he => by rw [flS_size]; exact h.size e he, by rw [flS_writes]; exact h.wr⟩
/-- Several disks flushed, one behind the other. -/
def flsS : ArrS → List Nat → ArrS
  | s, [] => s
  | s, d :: ds => flsS (flS s d) ds
def flsC : ArrS → List Nat → Int
  | _, [] => 0
  | s, d :: ds => if flC s d = 0 then flsC (flS s d) ds else flC s d
theorem InSz.flsS {ns : List Nat} : ∀ {ds : List Nat} {s : ArrS}, InSz ns s → InSz ns (flsS s ds)
  | [], _, h => h
  | d :: ds, s, h => show InSz ns (Go.Proofs.flsS (Go.Proofs.flS s d) ds) from InSz.flsS (h.flS d)
theorem flsS_append : ∀ {a b : List Nat} {s : ArrS}, flsS s (a ++ b) = flsS (flsS s a) b
  | [], _, _ => rfl
  | d :: a, b, s => flsS_append (a := a) (b := b) (s := flS s d)
theorem flsC_append : ∀ {a b : List Nat} {s : ArrS}, flsC s (a ++ b) = if flsC s a = 0 then flsC (flsS s a) b else flsC s a
  | [], _, _ => by rw [flsC, if_pos rfl]; rfl
  | d :: a, b, s => by
    show (if flC s d = 0 then flsC (flS s d) (a ++ b) else flC s d) = _
    rw [flsC_append (a := a)]
    simp only [flsC, flsS]
    by_cases h : flC s d = 0
    · simp only [h, if_true]
    · simp only [h, if_false]
/-- A device whose sector k is sector (f k).2 of disk (f k).1; ds are the disks that its flush reaches. -/
structure MapD (ns : List Nat) (x : Dvc) (n : Nat) (f : Nat → Nat × Nat) (ds : List Nat) : Prop where
  small : n ≤ 1000000000
  at_ : ∀ k, k < n → (f k).1 < ns.length ∧ (f k).2 < ns.getD (f k).1 0 ∧ (f k).1 ∈ ds
  size : ∀ s, InSz ns s → x.size s = some (n : Int)
  rd : ∀ s (k : Nat), InSz ns s → k < n → x.rd s (k : Int) = some (rdV s (f k).1 (f k).2, rdC s (f k).1 (f k).2)
  rdo : ∀ s (k : Int), InSz ns s → ¬ (0 ≤ k ∧ k < n) → x.rd s k = some (0, 1)
  wr : ∀ s (k : Nat) v, InSz ns s → k < n → x.wr s (k : Int) v = some (wrR s (f k).1 (f k).2, wrS s (f k).1 (f k).2 v)
  wro : ∀ s (k : Int) v, InSz ns s → ¬ (0 ≤ k ∧ k < n) → x.wr s k v = some (1, s)
  fl : ∀ s, InSz ns s → x.fl s = some (flsC s ds, flsS s ds)
theorem MapD.span {ns : List Nat} {d st n : Nat} (hd : d < ns.length) (hn : st + n ≤ ns.getD d 0) (hb : ns.getD d 0 ≤ 1000000000) : MapD ns (Dvc.span (d : Int) (st : Int) (n : Int)) n (fun k => (d, st + k)) [d] where
  small := by omega
  at_ k hk := ⟨hd, by show st + k < ns.getD d 0; omega, List.mem_singleton.2 rfl⟩
  size s h := rfl
  rd s k h hk := by
    rw [span_rd (by omega) (by omega), if_pos (by omega)]
    have e : (st : Int) + (k : Int) = ((st + k : Nat) : Int) := by omega
    rw [e]
  rdo s k h hk := by rw [span_rd (by omega) (by omega), if_neg hk]
  wr s k v h hk := by
    rw [span_wr (by omega) (by omega) h.wr, if_pos (by omega)]
    have e : (st : Int) + (k : Int) = ((st + k : Nat) : Int) := by omega
    rw [e]
  wro s k v h hk := by rw [span_wr (by omega) (by omega) h.wr, if_neg hk]
  fl s h := by
    rw [span_fl h.wr]
    show _ = some ((if flC s d = 0 then (0 : Int) else flC s d), flS s d)
    by_cases e : flC s d = 0
    · rw [if_pos e, e]
    · rw [if_neg e]
theorem MapD.window {ns : List Nat} {x : Dvc} {m : Nat} {f : Nat → Nat × Nat} {ds : List Nat} (hx : MapD ns x m f ds) {st n : Nat} (hn : st + n ≤ m) : MapD ns (Dvc.window x (st : Int) (n : Int)) n (fun k => f (st + k)) ds where
  small := by have := hx.small; omega
  at_ k hk := hx.at_ _ (by omega)
  size s h := rfl
  rd s k h hk := by
    have := hx.small
    rw [window_rd (by omega) (by omega) (by omega)]
    have e : (st : Int) + (k : Int) = ((st + k : Nat) : Int) := by omega
    rw [e, hx.rd s _ h (by omega)]
  rdo s k h hk := by
    have := hx.small
    show dvc_window_Read x st n k s = _
    unfold dvc_window_Read
    rw [inside1 (by omega)]; simp only [Option.bind_some]
    rw [if_pos (by simpa using hk)]
  wr s k v h hk := by
    have := hx.small
    rw [window_wr (by omega) (by omega) (by omega)]
    have e : (st : Int) + (k : Int) = ((st + k : Nat) : Int) := by omega
    rw [e, hx.wr s _ v h (by omega)]
  wro s k v h hk := by
    have := hx.small
    show dvc_window_Write x st n k v s = _
    unfold dvc_window_Write
    rw [inside1 (by omega)]; simp only [Option.bind_some]
    rw [if_pos (by simpa using hk)]
  fl s h := hx.fl s h
/-- The part of a sector of parts one behind the other. -/
def partAt (ns : List Nat) (k : Nat) : Nat := ((List.range ns.length).find? fun i => decide (k < sumTo ns (i + 1))).getD 0
theorem partAt_eq {ns : List Nat} {k i : Nat} (hi : i < ns.length) (h1 : sumTo ns i ≤ k) (h2 : k < sumTo ns (i + 1)) : partAt ns k = i := by
  unfold partAt
  rw [List.find?_eq_some_iff_getElem.2 ⟨by simpa using h2, i, by simpa using hi, by simp, fun j hj => by
    have := sumTo_mono (ns := ns) (i := j + 1) (j := i) (by omega) (by omega)
    simp; omega⟩]
  rfl
theorem flsJ_l1 {ns : List Nat} {l : List Dvc} {dss : List (List Nat)} (h8 : l.length ≤ 1000) (hl : l.length = dss.length) (hf : ∀ i, i < l.length → ∀ s, InSz ns s → (l.getD i dv0).fl s = some (flsC s (dss.getD i []), flsS s (dss.getD i []))) :
    ∀ (N i : Nat) (s : ArrS) (c : Int), l.length - i < N → i ≤ l.length → InSz ns s → dvc_concat_Flush_l1 l N s i c = some (if c = 0 then flsC s (dss.drop i).flatten else c, flsS s (dss.drop i).flatten)
  | 0, _, _, _, h, _, _ => absurd h (by omega)
  | N + 1, i, s, c, h, hi, hs => by
    show dvc_concat_Flush_l1_b _ _ _ _ _ = _
    unfold dvc_concat_Flush_l1_b
    by_cases hlt : i < l.length
    · rw [if_pos (by omega), hf i hlt s hs]; simp only [Option.bind_some]
      have e : (dss.drop i).flatten = dss.getD i [] ++ (dss.drop (i + 1)).flatten := by
        rw [List.drop_eq_getElem_cons (by omega), List.flatten_cons]; simp [List.getD, show i < dss.length by omega]
      rw [e, flsC_append, flsS_append]
      by_cases hc : c = 0
      · rw [if_pos hc, grd_t (inN64_of (by omega)), flsJ_l1 h8 hl hf N (i + 1) _ _ (by omega) (by omega) hs.flsS, if_pos hc]
      · rw [if_neg hc, grd_t (inN64_of (by omega)), flsJ_l1 h8 hl hf N (i + 1) _ _ (by omega) (by omega) hs.flsS, if_neg hc, if_neg hc]
    · rw [if_neg (by omega)]
      have : i = dss.length := by omega
      subst this
      rw [List.drop_length]
      show some (c, s) = some (if c = 0 then (0 : Int) else c, s)
      split
      · rename_i h0; rw [h0]
      · rfl
theorem MapD.concat {ns : List Nat} {l : List Dvc} {ms : List Nat} {fs : List (Nat → Nat × Nat)} {dss : List (List Nat)} (h8 : l.length ≤ 1000) (h1 : l.length = ms.length) (h3 : l.length = dss.length)
    (hx : ∀ i, i < l.length → MapD ns (l.getD i dv0) (ms.getD i 0) (fs.getD i fun _ => (0, 0)) (dss.getD i [])) (hb : sumTo ms ms.length ≤ 1000000000) :
    MapD ns (Dvc.concat l (endsL ms)) (sumTo ms ms.length) (fun k => (fs.getD (partAt ms k) fun _ => (0, 0)) (k - sumTo ms (partAt ms k))) dss.flatten where
  small := hb
  at_ k hk := by
    obtain ⟨i, hi, h5, h6, h7⟩ := concat_find (l := l) (ns := ms) (s := newS []) h1 (by omega) hb hk
    have e := partAt_eq hi h5 h6
    simp only [e]
    have := sumTo_succ (ns := ms) hi
    have h9 := (hx i (by omega)).at_ (k - sumTo ms i) (by omega)
    refine ⟨h9.1, h9.2.1, List.mem_flatten.2 ⟨dss.getD i [], ?_, h9.2.2⟩⟩
    have : i < dss.length := by omega
    simp [List.getD, this]
  size s h := concat_size (by omega)
  rd s k h hk := by
    obtain ⟨i, hi, h5, h6, h7, -⟩ := concat_rd (l := l) (ns := ms) (s := s) h1 (by omega) hb hk
    have e := partAt_eq hi h5 h6
    have := sumTo_succ (ns := ms) hi
    rw [h7, (hx i (by omega)).rd s _ h (by omega)]; simp only [e]
  rdo s k h hk := by
    show dvc_concat_Read _ _ _ _ = _
    unfold dvc_concat_Read
    rw [concat_size0 (by omega)]; simp only [Option.bind_some]
    rw [inside1 (by omega)]; simp only [Option.bind_some]
    rw [if_pos (by simpa using hk)]
  wr s k v h hk := by
    obtain ⟨i, hi, h5, h6, -, h7⟩ := concat_rd (l := l) (ns := ms) (s := s) h1 (by omega) hb hk
    have e := partAt_eq hi h5 h6
    have := sumTo_succ (ns := ms) hi
    rw [h7, (hx i (by omega)).wr s _ v h (by omega)]; simp only [e]
  wro s k v h hk := by
    show dvc_concat_Write _ _ _ _ _ = _
    unfold dvc_concat_Write
    rw [concat_size0 (by omega)]; simp only [Option.bind_some]
    rw [inside1 (by omega)]; simp only [Option.bind_some]
    rw [if_pos (by simpa using hk)]
  fl s h := by
    show dvc_concat_Flush l (endsL ms) s = _
    unfold dvc_concat_Flush
    have hF := fuel_big
    generalize FUEL = N at hF ⊢
    rw [flsJ_l1 h8 h3 (fun i hi s hs => (hx i hi).fl s hs) N 0 s 0 (by omega) (by omega) h, if_pos rfl]; rfl
end Go.Proofs
