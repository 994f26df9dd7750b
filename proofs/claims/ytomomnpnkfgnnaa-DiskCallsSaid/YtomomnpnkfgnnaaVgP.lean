/- A law with several slices: the memory as it stood, shared. -/
import Derived.Test.YtomomnpnkfgnnaaVgO
import Derived.Test.YtomomnpnkfgnnaaVgJ
import Derived.Test.YtomomnpnkfgnnaaVgS
namespace Go.VG
open Go.RowKit
def oldR (W : World) : HP := fun h => h = hpg (fun _ => true) W
theorem Dup_oldR {W : World} : Dup (oldR W) := by
  rintro h rfl k
  unfold hpg
  cases h : W.heap[k]? with
  | none => exact .inl rfl
  | some o => exact .inr ⟨o, rfl⟩
theorem St.startR (W : World) : St W W [oldR W] := ⟨rfl, rfl, rfl, fun _ => true, hpg (fun _ => true) W, fun _ => none, fun _ => .inr (.inl rfl), by funext k; simp [PH.uni], rfl, trivial⟩
theorem St.belowR {W w' : World} (h : St W w' [oldR W]) : Below W.heap.size W w' := by
  obtain ⟨gg, h1, h2, _, he, rfl, _⟩ := h.heap
  have hb : ∀ k, k < W.heap.size → w'.heap[k]? = W.heap[k]? := by
    intro k hk
    have h3 : hpg gg w' k = (hpg (fun _ => true) W k).or (h2 k) := by rw [he]; rfl
    have h4 : hpg (fun _ => true) W k = some (W.heap[k], true) := by simp [hpg, Array.getElem?_eq_getElem hk]
    rw [h4, Option.some_or] at h3
    rw [hpg_some h3, Array.getElem?_eq_getElem hk]
  refine ⟨h.os, h.tape, h.output, ?_, hb⟩
  rcases Nat.lt_or_ge w'.heap.size W.heap.size with hlt | hge
  · have := hb _ hlt
    rw [Array.getElem?_eq_none (Nat.le_refl _), Array.getElem?_eq_getElem hlt] at this
    cases this
  · exact hge
theorem Reads.oldR {α : Type} {t : Ty α} {w : World} {v : Value} {xs : List α} (h : Reads (Go.VG.old w) t v xs) : Reads (Go.VG.oldR w) t v xs := by
  rintro hh rfl
  have := h (hp w) rfl
  unfold SliceIn at this ⊢
  simpa only [cellAt_hpg] using this
theorem stars_oldN {w : World} {h : PH} : ∀ {n : Nat} {R : List HP}, stars (oldR w :: R) h → stars (List.replicate n (oldR w) ++ (oldR w :: R)) h
  | 0, _, hh => hh
  | n + 1, R, hh => by
    have h1 := stars_oldN (n := n) (R := oldR w :: R) (stars_dup Dup_oldR hh)
    have e : List.replicate n (oldR w) ++ oldR w :: oldR w :: R = List.replicate (n + 1) (oldR w) ++ (oldR w :: R) := by
      rw [List.replicate_succ', List.append_assoc]; rfl
    rw [← e]; exact h1
/-- A law's contract, used: n slices come in. -/
theorem CSpec.lawN {P : Program} {f : FuncId} {args : List Value} {w : World} {pf : Unit → Prop} (n : Nat) (h : CSpec P w f args (List.replicate n (oldR w)) (fun _ : Unit => .bool true) pf (fun _ F => List.replicate n (oldR w) ++ F)) :
    Calls P f args.toArray w fun e w' => e = .returned (.bool true) ∧ Below w.heap.size w w' := by
  have h0 : St w w (List.replicate n (oldR w) ++ [oldR w]) := (St.startR w).imp fun g hg => stars_oldN (n := n) hg
  refine (h [oldR w] w h0).mono fun _ _ ⟨_, he, _, hs⟩ => ⟨he, St.belowR (hs.imp ?_)⟩
  intro g hg
  have : ∀ (m : Nat) (g : PH), stars (List.replicate m (oldR w) ++ [oldR w]) g → stars [oldR w] g := fun m => by
    induction m with
    | zero => exact fun _ h => h
    | succ m ih => exact fun g h => ih g (stars_tail h)
  exact this n g hg
end Go.VG
