/- Devices whose sectors are sectors of an array's disks. -/
import Derived.Test.YteboelcolfoddaaPArr
namespace Go.Proofs
open Go.VG
/-- An array with disks of these sizes, not used too often. -/
structure InSz (ns : List Nat) (s : ArrS) : Prop where
  cnt : s.drv.length = ns.length
  size : ∀ d, d < ns.length → s.size d = ns.getD d 0
  wr : s.writes ≤ 1000000000
theorem flS_drv {s : ArrS} {d : Nat} : (flS s d).drv.length = s.drv.length := by unfold flS; split <;> simp
theorem flS_writes {s : ArrS} {d : Int} : (flS s d).writes = s.writes := by unfold flS; split <;> rfl
theorem flS_size {s : ArrS} {d e : Nat} : (flS s d).size e = s.size e := by
  unfold flS; split
  · rfl
  · rename_i h
    have hd : d < s.drv.length := by
      rcases Nat.lt_or_ge d s.drv.length with h' | h'
      · exact h'
      · exfalso; apply h
        have : cLoc s (d : Int) = 1 := by rw [cLoc, if_neg (fun x : inR s (d : Int) => by have := x.2; omega)]
        intro h0
        have h1 := h0
        unfold flC fz at h1
        by_cases hp : cPow s = 0
        · simp [hp, fz, this] at h1
        · simp [hp] at h1
    exact size_fl1 (s := s) hd
theorem InSz.flS {ns : List Nat} {s : ArrS} (h : InSz ns s) (d : Nat) : InSz ns (flS s d) := ⟨by rw [flS_drv]; exact h.cnt, fun e he => by rw [flS_size]; exact h.size e he, by rw [flS_writes]; exact h.wr⟩
/-- Several disks flushed, one behind the other. -/
def flsS : ArrS → List Nat → ArrS
  | s, [] => s
  | s, d :: ds => flsS (flS s d) ds
def flsC : ArrS → List Nat → Int
  | _, [] => 0
  | s, d :: ds => if flC s d = 0 then flsC (flS s d) ds else flC s d
theorem InSz.flsS {ns : List Nat} : ∀ {ds : List Nat} {s : ArrS}, InSz ns s → InSz ns (flsS s ds)
  | [], _, h => h
  | d :: ds, s, h => show InSz ns (Go.Proofs.flsS (Go.Proofs.flS s d) ds) from InSz.flsS (h.flS d)
theorem flsS_append : ∀ {a b : List Nat} {s : ArrS}, flsS s (a ++ b) = flsS (flsS s a) b
  | [], _, _ => rfl
  | d :: a, b, s => flsS_append (a := a) (b := b) (s := flS s d)
theorem flsC_append : ∀ {a b : List Nat} {s : ArrS}, flsC s (a ++ b) = if flsC s a = 0 then flsC (flsS s a) b else flsC s a
  | [], _, _ => by rw [flsC, if_pos rfl]; rfl
  | d :: a, b, s => by
    show (if flC s d = 0 then flsC (flS s d) (a ++ b) else flC s d) = _
    rw [flsC_append (a := a)]
    simp only [flsC, flsS]
    by_cases h : flC s d = 0
    · simp only [h, if_true]
    · simp only [h, if_false]
/-- A device whose sector k is sector (f k).2 of disk (f k).1; ds are the disks that its flush reaches. -/
structure MapD (ns : List Nat) (x : Dvc) (n : Nat) (f : Nat → Nat × Nat) (ds : List Nat) : Prop where
  small : n ≤ 1000000000
  at_ : ∀ k, k < n → (f k).1 < ns.length ∧ (f k).2 < ns.getD (f k).1 0 ∧ (f k).1 ∈ ds
  size : ∀ s, InSz ns s → x.size s = some (n : Int)
  rd : ∀ s (k : Nat), InSz ns s → k < n → x.rd s (k : Int) = some (rdV s (f k).1 (f k).2, rdC s (f k).1 (f k).2)
  rdo : ∀ s (k : Int), InSz ns s → ¬ (0 ≤ k ∧ k < n) → x.rd s k = some (0, 1)
  wr : ∀ s (k : Nat) v, InSz ns s → k < n → x.wr s (k : Int) v = some (wrR s (f k).1 (f k).2, wrS s (f k).1 (f k).2 v)
  wro : ∀ s (k : Int) v, InSz ns s → ¬ (0 ≤ k ∧ k < n) → x.wr s k v = some (1, s)
  fl : ∀ s, InSz ns s → x.fl s = some (flsC s ds, flsS s ds)
theorem MapD.span {ns : List Nat} {d st n : Nat} (hd : d < ns.length) (hn : st + n ≤ ns.getD d 0) (hb : ns.getD d 0 ≤ 1000000000) : MapD ns (Dvc.span (d : Int) (st : Int) (n : Int)) n (fun k => (d, st + k)) [d] where
  small := by omega
  at_ k hk := ⟨hd, by show st + k < ns.getD d 0; omega, List.mem_singleton.2 rfl⟩
  size s h := rfl
  rd s k h hk := by
    rw [span_rd (by omega) (by omega), if_pos (by omega)]
    have e : (st : Int) + (k : Int) = ((st + k : Nat) : Int) := by omega
    rw [e]
  rdo s k h hk := by rw [span_rd (by omega) (by omega), if_neg hk]
  wr s k v h hk := by
    rw [span_wr (by omega) (by omega) h.wr, if_pos (by omega)]
    have e : (st : Int) + (k : Int) = ((st + k : Nat) : Int) := by omega
    rw [e]
  wro s k v h hk := by rw [span_wr (by omega) (by omega) h.wr, if_neg hk]
  fl s h := by
    rw [span_fl h.wr]
    show _ = some ((if flC s d = 0 then (0 : Int) else flC s d), flS s d)
    by_cases e : flC s d = 0
    · rw [if_pos e, e]
    · rw [if_neg e]
end Go.Proofs
