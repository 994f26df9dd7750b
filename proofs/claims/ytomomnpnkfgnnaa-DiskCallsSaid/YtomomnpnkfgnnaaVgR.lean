/- Results that stand in variables of their own. -/
import Derived.Test.YtomomnpnkfgnnaaVgQ
namespace Go.VG
section
variable {P : Program} {n : Env} {W : World} {s : Slots} {H : List HP}
def rvSem (tmps : Array Value) : ResultVar → Sem Value
  | .tmp t => pure (tmps.getD t undef)
  | .cell a t => do loadVar t (← asAddr (tmps.getD a undef))
theorem results_rv {fn : Func} {tmps : Array Value} : results fn tmps = (do let vs ← fn.results.mapM (rvSem tmps); pure (if h : vs.size = 1 then vs[0] else .tuple vs)) := by
  unfold results
  congr 2
/-- A result is v. -/
def RV (P : Program) (n : Env) (W : World) (s : Slots) (H : List HP) (r : ResultVar) (v : Value) : Prop := ∀ a w, Fits n s a → St W w H → (rvSem a.tmps r).run P w = .ok v w
theorem RV_tmp {t : Tmp} {v : Value} (hv : look s t = some v) : RV P n W s H (.tmp t) v := fun a w hf _ => by
  have := hf.slot t v hv
  simp [rvSem, this]
theorem RV_cell {t : Tmp} {T E : TypeId} {b off : Nat} {cs : List Value} {C : HP → List HP} {v : Value} (hx : look s t = some (ptr b off)) (hf' : Foc H (blk b E cs) C) (hc : cs[off]? = some v)
    (hT : ∀ w, (isAgg T).run P w = .ok false w) : RV P n W s H (.cell t T) v := fun a w hf hs => by
  obtain ⟨F, hp, _⟩ := hf'.focus
  have hcell := (hs.perm hp).cell (i := off)
  simp only [List.getElem?_toArray, hc] at hcell
  have := hf.slot t _ hx
  simp [rvSem, this, asAddr, loadVar, hT, hcell]
theorem RV_cellN {t : Tmp} {T E : TypeId} {b off m : Nat} {cs : List Value} {C : HP → List HP} {vs : List Value} (hx : look s t = some (ptr b off)) (hf' : Foc H (blk b E cs) C)
    (hT : ∀ w, (isAgg T).run P w = .ok true w) (hm : ∀ w, (sizeOf T).run P w = .ok m w) (hb : Nat.ble (off + m) cs.length = true) (hc : (cs.drop off).take m = vs) : RV P n W s H (.cell t T) (.agg vs.toArray) := fun a w hf hs => by
  obtain ⟨F, hp, _⟩ := hf'.focus
  have hl := run_loadCells_blk (P := P) (off := off) (m := m) (hs.perm hp).blk (by simpa using Nat.le_of_ble_eq_true hb)
  simp only [hc] at hl
  have := hf.slot t _ hx
  simp [rvSem, this, asAddr, loadVar, hT, hm, hl]
theorem resA1 {fn : Func} {r : ResultVar} {v : Value} (h : fn.results = #[r]) (h1 : RV P n W s H r v) : ∀ a w, Fits n s a → St W w H → (results fn a.tmps).run P w = .ok v w := fun a w hf hs => by
  have e1 := h1 a w hf hs
  rw [results_rv, h]
  simp [Sem.run_bind, e1]
theorem resA2 {fn : Func} {r q : ResultVar} {v u : Value} (h : fn.results = #[r, q]) (h1 : RV P n W s H r v) (h2 : RV P n W s H q u) : ∀ a w, Fits n s a → St W w H → (results fn a.tmps).run P w = .ok (.tuple #[v, u]) w := fun a w hf hs => by
  have e1 := h1 a w hf hs
  have e2 := h2 a w hf hs
  rw [results_rv, h]
  simp [Sem.run_bind, e1, e2]
theorem resA3 {fn : Func} {r q p : ResultVar} {v u x : Value} (h : fn.results = #[r, q, p]) (h1 : RV P n W s H r v) (h2 : RV P n W s H q u) (h3 : RV P n W s H p x) : ∀ a w, Fits n s a → St W w H → (results fn a.tmps).run P w = .ok (.tuple #[v, u, x]) w := fun a w hf hs => by
  have e1 := h1 a w hf hs
  have e2 := h2 a w hf hs
  have e3 := h3 a w hf hs
  rw [results_rv, h]
  simp [Sem.run_bind, e1, e2, e3]
end
end Go.VG
