/- Methods of values that are known by what their methods do. -/
import Derived.Test.YtomomnpnkfgnnaaVgM
namespace Go.VG
section
variable {P : Program} {W : World} {k : Nat} {h h' : IfH} {name : String} {args : List Value} {pre pre' G : List HP} {X : Type} {res : X → Value} {pf : X → Prop} {post post' : X → List HP → List HP}
/-- A method of an interface value, found in at most k steps. -/
def IOk (P : Program) (W : World) (k : Nat) (h : IfH) (name : String) (args : List Value) (pre : List HP) {X : Type} (res : X → Value) (pf : X → Prop) (post : X → List HP → List HP) : Prop :=
  ∀ n, k ≤ n → ∀ F w, St W w (pre ++ F) → ∃ f r, (method n h.t h.u name).run P w = .ok (f, r) w ∧ Enters P f ∧ Calls P f (r :: args).toArray w (CPost W res pf post F)
theorem IOk.call (hm : IOk P W k h name args pre res pf post) (hk : k ≤ 100) : ICall P W h.v name args pre res pf post := by
  intro F w hs
  obtain ⟨f, r, h1, h2, h3⟩ := hm (P.types.size + Made.depth) (by unfold Made.depth; omega) F w hs
  refine ⟨f, (r :: args).toArray, ?_, h3⟩
  have h4 := h2 (r :: args).toArray w
  simp only [callMethod, Sem.run_bind, run_program, Result.andThen_ok, h1]
  simpa using h4
theorem IOk.of {T : Nat} {u r : Value} {f : FuncId} (hm : ∀ n w, (method (n + 1) T u name).run P w = .ok (f, r) w) (he : Enters P f) (hc : CSpec P W f (r :: args) pre res pf post) : IOk P W (k + 1) ⟨T, u⟩ name args pre res pf post := by
  intro n hn F w hs
  obtain ⟨m, rfl⟩ : ∃ m, n = m + 1 := ⟨n - 1, by omega⟩
  exact ⟨f, r, hm m w, he, hc F w hs⟩
theorem IOk.prom (hp : ∀ n F w, St W w (pre ++ F) → (method (n + 1) h.t h.u name).run P w = (method n h'.t h'.u name).run P w) (hm : IOk P W k h' name args pre res pf post) : IOk P W (k + 1) h name args pre res pf post := by
  intro n hn F w hs
  obtain ⟨m, rfl⟩ : ∃ m, n = m + 1 := ⟨n - 1, by omega⟩
  obtain ⟨f, r, h1, h2⟩ := hm m (by omega) F w hs
  exact ⟨f, r, (hp m F w hs).trans h1, h2⟩
theorem IOk.conseq (hm : IOk P W k h name args pre res pf post) (h1 : ∀ F, Ent (pre' ++ F) (pre ++ (G ++ F))) (h2 : ∀ x F, Ent (post x (G ++ F)) (post' x F)) : IOk P W k h name args pre' res pf post' := by
  intro n hn F w hs
  obtain ⟨f, r, ha, hb, hc⟩ := hm n hn (G ++ F) w (hs.imp (h1 F))
  exact ⟨f, r, ha, hb, hc.mono fun e w' ⟨x, hx, hp, hs'⟩ => ⟨x, hx, hp, hs'.imp (h2 x F)⟩⟩
theorem IOk.exI {β : Type} {p : β → HP} (hm : ∀ y, IOk P W k h name args (p y :: pre) res pf post) : IOk P W k h name args (ex p :: pre) res pf post := by
  intro n hn F w hs
  obtain ⟨y, hy⟩ := St.ex_iff.1 hs
  exact hm y n hn F w hy
theorem IOk.empI {q : Prop} (hm : q → IOk P W k h name args pre res pf post) : IOk P W k h name args (emp q :: pre) res pf post := by
  intro n hn F w hs
  obtain ⟨g, hg⟩ := hs.heap
  have := stars_emp.1 hg
  exact hm this.1 n hn F w ⟨hs.os, hs.tape, hs.output, g, this.2⟩
theorem IOk.starI {l : List HP} (hm : IOk P W k h name args (l ++ pre) res pf post) : IOk P W k h name args (starX l :: pre) res pf post := by
  intro n hn F w hs
  exact hm n hn F w (by simpa using hs.imp (fun _ hh => stars_starX.1 hh))
theorem IOk.mono {k' : Nat} (hm : IOk P W k h name args pre res pf post) (hk : k ≤ k') : IOk P W k' h name args pre res pf post := fun n hn => hm n (Nat.le_trans hk hn)
theorem IOk.post0 (hm : IOk P W k h name args pre res pf post) (h2 : ∀ x F, Ent (post x F) (post' x F)) : IOk P W k h name args pre res pf post' := IOk.conseq (G := []) hm (fun _ => Ent.refl) h2
theorem Ent.starI {l R R' : List HP} (h : Ent R (l ++ R')) : Ent R (starX l :: R') := fun g hg => stars_starX.2 (h g hg)
theorem Ent.starE {l R R' : List HP} (h : Ent (l ++ R) R') : Ent (starX l :: R) R' := fun g hg => h g (stars_starX.1 hg)
theorem Ent.empI {q : Prop} {R R' : List HP} (hq : q) (h : Ent R R') : Ent R (emp q :: R') := fun g hg => stars_emp.2 ⟨hq, h g hg⟩
theorem St.emp_iff {w : World} {p : Prop} {H : List HP} (h : St W w (emp p :: H)) : p ∧ St W w H := by
  obtain ⟨g, hg⟩ := h.heap
  have := stars_emp.1 hg
  exact ⟨this.1, h.os, h.tape, h.output, g, this.2⟩
theorem Reads.hd {α : Type} {t : Ty α} {v : Value} {xs : List α} {A : HP} {l : List HP} (h : Reads A t v xs) : Reads (starX (A :: l)) t v xs := by
  rintro g ⟨h1, h2, hd, rfl, hA, _⟩
  exact (h h1 hA).mono hd
theorem Reads.tl {α : Type} {t : Ty α} {v : Value} {xs : List α} {A : HP} {l : List HP} (h : Reads (starX l) t v xs) : Reads (starX (A :: l)) t v xs := by
  rintro g ⟨h1, h2, hd, rfl, _, hr⟩
  rw [PH.uni_comm hd]; exact (h h2 hr).mono (PH.disj_symm hd)
theorem stars_one {A : HP} {g : PH} (hg : A g) : stars [A] g := by
  have hd : PH.disj (fun _ => none) g := fun _ => .inl rfl
  exact ⟨g, fun _ => none, PH.disj_symm hd, by rw [← PH.uni_comm hd]; funext k; simp [PH.uni], hg, trivial⟩
theorem Reads.of_ent {α : Type} {t : Ty α} {v : Value} {xs : List α} {A B : HP} (he : Ent [B] [A]) (h : Reads A t v xs) : Reads B t v xs := by
  intro g hg
  obtain ⟨h1, h2, hd, rfl, hA, _⟩ := he g (stars_one hg)
  exact (h h1 hA).mono hd
theorem run_loadVar1 {w : World} {T : TypeId} {a : Addr} {v : Value} (hT : (isAgg T).run P w = .ok false w) (hc : w.cell? a = some v) : (loadVar T a).run P w = .ok v w := by
  simp [loadVar, hT, hc]
end
section
variable {n : Env} {W : World} {s : Slots} {H : List HP} {Q : Exit → Act → World → Prop} {P : Program}
theorem AJ_pure {l : List Oper} {Hr : List HP} {tl fuel m : Nat} {p : Prop} (hp : ∀ h, stars H h → p) (h : p → AJ P n W l Q Hr tl fuel m s H) : AJ P n W l Q Hr tl fuel m s H :=
  fun a w hf hs => h (let ⟨_, hgg⟩ := hs.heap; hp _ hgg) a w hf hs
variable {n : Env} {dst : Option Tmp} {ty : TypeId} {pos : String} {after : Array Edge} {g : Option (Nat × Bool)}
theorem P_nilCheckF {x : Operand} {f : FuncId} {a b : Array Value} (hx : ev s x = some (.func (.func f) a b)) : PJ P n ⟨dst, .nilCheck x, ty, pos, after, g⟩ s (.func (.func f) a b) :=
  (fun q w hf => by simp [execOp, hf.eval hx])
theorem P_nilCheckM {x : Operand} {h : IfH} {name : String} {b : Array Value} (hn : ∀ n, 100 ≤ n → ∀ w, (nilAhead n h.t h.u name).run P w = .ok (some false) w) (hx : ev s x = some (.func (.method name) #[h.v] b)) : PJ P n ⟨dst, .nilCheck x, ty, pos, after, g⟩ s (.func (.method name) #[h.v] b) :=
  (fun q w hf => by
    have h1 := hn (P.types.size + Made.depth) (by unfold Made.depth; omega) w
    simp [execOp, hf.eval hx, h1])
theorem P_indexArrE {x ix : Operand} {T E : TypeId} {v : Value} {k : IntKind} {i sz kk j len es : Nat} (hx : ev s x = some (eptr v i sz kk)) (hi : ev s ix = some (.int k (j : Int))) (hlt : Nat.blt j len = true)
    (hT : ∀ w, (underlying T).run P w = .ok (.array len E) w) (hE : ∀ w, (sizeOf E).run P w = .ok es w) : PJ P n ⟨dst, .indexAddr T x ix, ty, pos, after, g⟩ s (eptr v i sz (kk + j * es)) :=
  (fun q w hf => by
    have hlt' : j < len := by simpa using hlt
    simp [execOp, hf.eval hx, hf.eval hi, eptr, Instr.indexAt, asIntOf, hT, hE, hlt', Instr.sureAddr, addr_add, Nat.add_assoc])
end
end Go.VG
