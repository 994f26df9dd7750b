/- From a contract to a statement's frame: the memory that stood at the start, as one assertion; slices that came in. -/
import Derived.Test.YtomomnpnkfgnnaaVgF
import Derived.Below
import Derived.OpenShut
namespace Go.VG
open Go.RowKit

/-- The memory as it stood. -/
def old (W : World) : HP := fun h => h = hp W
theorem St.start (W : World) : St W W [old W] := ⟨rfl, rfl, rfl, fun _ => false, hp W, fun _ => none, fun _ => .inr (.inl rfl), by funext k; simp [PH.uni, hp], rfl, trivial⟩
theorem St.below {W w' : World} (h : St W w' [old W]) : Below W.heap.size W w' := by
  obtain ⟨gg, h1, h2, _, he, rfl, _⟩ := h.heap
  have hb : ∀ k, k < W.heap.size → w'.heap[k]? = W.heap[k]? := by
    intro k hk
    have h3 : hpg gg w' k = (hp W k).or (h2 k) := by rw [he]; rfl
    have h4 : hp W k = some (W.heap[k], false) := by simp [hp, hpg, Array.getElem?_eq_getElem hk]
    rw [h4, Option.some_or] at h3
    rw [hpg_some h3, Array.getElem?_eq_getElem hk]
  refine ⟨h.os, h.tape, h.output, ?_, hb⟩
  rcases Nat.lt_or_ge w'.heap.size W.heap.size with hlt | hge
  · have := hb _ hlt
    rw [Array.getElem?_eq_none (Nat.le_refl _), Array.getElem?_eq_getElem hlt] at this
    cases this
  · exact hge
theorem cellAt_old {w : World} {a : Addr} {u : Value} (h : w.cell? a = some u) : a.spot = none ∧ cellAt (hp w) a.block a.off = some u := by
  unfold World.cell? at h
  unfold cellAt hp hpg
  split at h
  · rename_i c T fr hb
    rw [hb]
    cases hs : a.spot with
    | none => simpa [hs] using h
    | some x => simp [hs] at h
  · cases h
/-- A slice that came in, by its cells. -/
theorem Reads.old {α : Type} {t : Ty α} {w : World} {a : Option Addr} {len cap : Nat} {xs : List α} (h : (a = none ∧ len = 0 ∧ cap = 0 ∧ xs = []) ∨
    ∃ x, a = some x ∧ xs.length = len ∧ len ≤ cap ∧ cap ≤ maxLen ∧ ∀ i k u, i < xs.length → k < t.sz → (t.enc (xs.getD i t.dflt))[k]? = some u → w.cell? (x.add (i * t.sz + k)) = some u) :
    Reads (old w) t (.slice a len cap) xs := by
  rintro hh rfl
  rcases h with ⟨rfl, rfl, rfl, rfl⟩ | ⟨x, rfl, rfl, hc, hm, hcell⟩
  · exact .inl ⟨rfl, rfl⟩
  · have hsp : 0 < xs.length → x.spot = none := by
      intro h0
      have hk : 0 < (t.enc (xs.getD 0 t.dflt)).length := by rw [t.len]; exact t.pos
      have := hcell 0 0 _ h0 t.pos (List.getElem?_eq_getElem hk)
      rw [Nat.zero_mul, Nat.zero_add] at this
      have h1 := (cellAt_old this).1
      simpa [Addr.add] using h1
    refine .inr ⟨x, cap, rfl, hc, hm, hsp, fun i k u hi hk hu => ?_⟩
    have := (cellAt_old (hcell i k u hi hk hu)).2
    rw [addr_add _ _ (hsp (by omega))] at this
    exact this
/-- A law's contract, used. -/
theorem CSpec.law {P : Program} {f : FuncId} {args : List Value} {w : World} {pf : Unit → Prop} (h : CSpec P w f args [] (fun _ : Unit => .bool true) pf (fun _ F => F)) :
    Calls P f args.toArray w fun e w' => e = .returned (.bool true) ∧ Below w.heap.size w w' :=
  (h [old w] w (St.start w)).mono fun _ _ ⟨_, he, _, hs⟩ => ⟨he, hs.below⟩
theorem CSpec.law1 {P : Program} {f : FuncId} {args : List Value} {w : World} {pf : Unit → Prop} (h : CSpec P w f args [old w] (fun _ : Unit => .bool true) pf (fun _ F => old w :: F)) :
    Calls P f args.toArray w fun e w' => e = .returned (.bool true) ∧ Below w.heap.size w w' :=
  (h [] w (St.start w)).mono fun _ _ ⟨_, he, _, hs⟩ => ⟨he, hs.below⟩
end Go.VG
