/- TopStacks, part 1 of the proof: VgA, VgB, PTs1, VgC, VgD, VgE, VgF, VgG, VgH, VgI, VgJ, VgK. -/
import Derived.WalkKit
import Derived.Orders
import Derived.RangeFuncLeaves
import Derived.RangeFuncCalls
import Derived.TacticsIn
import Derived.Handy
import Derived.OrdersHeld
import Derived.OrdersIn
import Derived.Below
import Derived.OpenShut
import Derived.Deep.Slices
import Derived.Scope
import Derived.KernelRfl
import Derived.RangeFuncRecord
import Derived.ChangeKeysEq
import Derived.Laws.BytesArg
import Derived.Lib.Bytealg
import Derived.Lib.AppendStr
import Derived.Lib.Builder
import Derived.Lib.UnsafeStr
import Derived.ProofKit
import Derived.ShutString
import Derived.ChangeOld
import Derived.Stop.Joined
import Derived.LaidLaws
import Derived.LaidHandle
import Derived.MakeChecks
import Derived.SevenTiedAt
import Derived.Test.YthfaiagepigmcaaGreatDoorChecked
import Derived.Test.YthfaiagepigmcaaGreatDoorRows
namespace Go.VG
def PH:Type := Nat→Option (Obj × Bool)
def HP:Type := PH→Prop
def PH.disj (a b:PH):Prop := ∀ k,a k=none∨b k=none∨(a k=b k ∧ ∃ o,a k=some (o,true))
def PH.uni (a b:PH):PH := fun k=>(a k).or (b k)
def PH.upd (h:PH) (b:Nat) (o:Obj):PH := fun k=>if k=b then some (o,false) else h k
def PH.one (b:Nat) (o:Obj):PH := fun k=>if k=b then some (o,false) else none
def PH.oneR (b:Nat) (o:Obj):PH := fun k=>if k=b then some (o,true) else none
theorem PH.disj_symm {a b:PH} (h:a.disj b):b.disj a := fun k=>by
  rcases h k with h | h | ⟨h,o,ho⟩
  · exact .inr (.inl h)
  · exact .inl h
  · exact .inr (.inr ⟨h.symm,o,h ▸ ho⟩)
theorem PH.uni_comm {a b:PH} (h:a.disj b):a.uni b=b.uni a := by
  funext k
  rcases h k with h | h | ⟨h,_⟩ <;> simp [PH.uni,h]
theorem PH.uni_assoc (a b c:PH):(a.uni b).uni c=a.uni (b.uni c) := by
  funext k; simp [PH.uni,Option.or_assoc]
theorem PH.disj_uni_left {a b c:PH} (hab:a.disj b):(a.uni b).disj c↔a.disj c∧b.disj c := by
  constructor
  · intro h
    refine ⟨fun k => ?_,fun k => ?_⟩
    · cases ha:a k with
      | none=>exact .inl rfl
      | some o =>
        have := h k
        simp only [PH.uni,ha,Option.some_or] at this
        simpa using this
    · cases hb:b k with
      | none=>exact .inl rfl
      | some o =>
        have h1:(a.uni b) k=some o := by
          rcases hab k with h | h | ⟨h,_⟩
          · simp [PH.uni,h,hb]
          · rw [hb] at h; cases h
          · simp [PH.uni,h,hb]
        have := h k
        rw [h1] at this
        simpa using this
  · rintro ⟨h,h'⟩ k
    cases ha:a k with
    | none=>have := h' k; simpa [PH.uni,ha] using this
    | some o=>have := h k; simpa [PH.uni,ha] using this
theorem PH.disj_uni_right {a b c:PH} (hbc:b.disj c):a.disj (b.uni c)↔a.disj b∧a.disj c := by
  constructor
  · intro h
    have := (PH.disj_uni_left hbc).1 (PH.disj_symm h)
    exact ⟨PH.disj_symm this.1,PH.disj_symm this.2⟩
  · rintro ⟨h,h'⟩
    exact PH.disj_symm ((PH.disj_uni_left hbc).2 ⟨PH.disj_symm h,PH.disj_symm h'⟩)
def stars:List HP→PH→Prop
  | [],_=>True
  | A::r,h => ∃ h1 h2,PH.disj h1 h2∧h=PH.uni h1 h2∧A h1∧stars r h2
def pt (b:Nat) (o:Obj):HP := fun h=>h=PH.one b o
def ptR (b:Nat) (o:Obj):HP := fun h=>h=PH.oneR b o
def pur (p:Prop):HP := fun _=>p
def ex {α:Type} (f:α→HP):HP := fun h => ∃ x,f x h
def star (Hs:List HP):HP := fun h=>stars Hs h
theorem ze4:∀ (H:List HP) {a b:PH},a.disj b→stars H b→stars H (a.uni b)
  | [],_,_,_,_=>trivial
  | A::r,a,b,hd,h=>by
    obtain ⟨h1,h2,d,rfl,hA,hr⟩ := h
    have ⟨d1,d2⟩ := (PH.disj_uni_right d).1 hd
    refine ⟨h1,a.uni h2,?_,?_,hA,ze4 r d2 hr⟩
    · exact (PH.disj_uni_right d2).2 ⟨PH.disj_symm d1,d⟩
    · rw [← PH.uni_assoc, ← PH.uni_assoc,PH.uni_comm d1]
theorem zbx {A B:HP} {r:List HP} {h:PH} (hh:stars (A::B::r) h):stars (B::A::r) h := by
  obtain ⟨h1,h2,d,rfl,hA,h3,h4,d',rfl,hB,hr⟩ := hh
  have ⟨d1,d2⟩ := (PH.disj_uni_right d').1 d
  refine ⟨h3,h1.uni h4,(PH.disj_uni_right d2).2 ⟨PH.disj_symm d1,d'⟩,?_,hB,h1,h4,d2,rfl,hA,hr⟩
  rw [← PH.uni_assoc, ← PH.uni_assoc,PH.uni_comm d1]
theorem zas {A:HP} {r r':List HP} {h:PH} (hr:∀ h,stars r h→stars r' h) (hh:stars (A::r) h):stars (A::r') h := by
  obtain ⟨h1,h2,d,rfl,hA,h3⟩ := hh
  exact ⟨h1,h2,d,rfl,hA,hr _ h3⟩
theorem zbd {H H':List HP} (hp:H.Perm H'):∀ h,stars H h→stars H' h := by
  induction hp with
  | nil=>exact fun _ h=>h
  | cons x _ ih=>exact fun h hh=>zas ih hh
  | swap x y l=>exact fun h hh=>zbx hh
  | trans _ _ ih1 ih2=>exact fun h hh=>ih2 _ (ih1 _ hh)
theorem zby {A:HP} {r:List HP} {h:PH} (hh:stars (A::r) h):stars r h := by
  obtain ⟨h1,h2,d,rfl,_,hr⟩ := hh
  exact ze4 r d hr
theorem stars_append {H H':List HP} : ∀ {h:PH},stars (H ++ H') h ↔ ∃ h1 h2,PH.disj h1 h2∧h=PH.uni h1 h2∧stars H h1∧stars H' h2 := by
  induction H with
  | nil =>
    intro h
    constructor
    · intro hh
      exact ⟨fun _=>none,h,fun k => .inl rfl,by funext k; simp [PH.uni],trivial,hh⟩
    · rintro ⟨h1,h2,d,rfl,_,h3⟩
      exact ze4 _ d h3
  | cons A r ih =>
    intro h
    constructor
    · rintro ⟨h1,h2,d,rfl,hA,hr⟩
      obtain ⟨h3,h4,d',rfl,hr1,hr2⟩ := ih.1 hr
      have ⟨d1,d2⟩ := (PH.disj_uni_right d').1 d
      exact ⟨h1.uni h3,h4,(PH.disj_uni_left d1).2 ⟨d2,d'⟩,(PH.uni_assoc _ _ _).symm,⟨h1,h3,d1,rfl,hA,hr1⟩,hr2⟩
    · rintro ⟨h12,h4,d,rfl,⟨h1,h3,d1,rfl,hA,hr1⟩,hr2⟩
      have ⟨d2,d'⟩ := (PH.disj_uni_left d1).1 d
      exact ⟨h1,h3.uni h4,(PH.disj_uni_right d').2 ⟨d1,d2⟩,PH.uni_assoc _ _ _,hA,ih.2 ⟨h3,h4,d',rfl,hr1,hr2⟩⟩
theorem stars_star {Hs r:List HP} {h:PH} : stars (star Hs::r) h↔stars (Hs ++ r) h := stars_append.symm
theorem stars_ex {α:Type} {f:α→HP} {r:List HP} {h:PH} : stars (ex f::r) h ↔ ∃ x,stars (f x::r) h := by
  constructor
  · rintro ⟨h1,h2,d,rfl,⟨x,hx⟩,hr⟩; exact ⟨x,h1,h2,d,rfl,hx,hr⟩
  · rintro ⟨x,h1,h2,d,rfl,hx,hr⟩; exact ⟨h1,h2,d,rfl,⟨x,hx⟩,hr⟩
theorem stars_pur {p:Prop} {r:List HP} {h:PH} : stars (pur p::r) h↔p∧stars r h := by
  constructor
  · rintro ⟨h1,h2,d,rfl,hp,hr⟩; exact ⟨hp,ze4 r d hr⟩
  · rintro ⟨hp,hr⟩; exact ⟨fun _=>none,h,fun k => .inl rfl,by funext k; simp [PH.uni],hp,hr⟩
theorem zrg {b:Nat} {o:Obj} {r:List HP} {h:PH} (hh:stars (pt b o::r) h):h b=some (o,false) := by
  obtain ⟨h1,h2,d,rfl,rfl,hr⟩ := hh
  simp [PH.uni,PH.one]
theorem zvf {b:Nat} {o:Obj} {r:List HP} {h:PH} (hh:stars (ptR b o::r) h):h b=some (o,true) := by
  obtain ⟨h1,h2,d,rfl,rfl,hr⟩ := hh
  simp [PH.uni,PH.oneR]
theorem zrh {b:Nat} {o:Obj} {h2:PH} (d:(PH.one b o).disj h2):h2 b=none := by
  rcases d b with h | h | ⟨_,x,h⟩
  · simp [PH.one] at h
  · exact h
  · simp [PH.one] at h
theorem zg1 {b:Nat} {h1 h2:PH} (hb:h2 b=none) (h1':∀ k,k≠b→h1 k=none):h1.disj h2 := fun k=>by
  by_cases hk:k=b
  · subst hk; exact .inr (.inl hb)
  · exact .inl (h1' k hk)
theorem zvg {b:Nat} {o o':Obj} {r:List HP} {h:PH} (hh:stars (pt b o::r) h):stars (pt b o' :: r) (h.upd b o') := by
  obtain ⟨h1,h2,d,rfl,rfl,hr⟩ := hh
  refine ⟨PH.one b o',h2,zg1 (zrh d) (fun k hk=>by simp [PH.one,hk]),?_,rfl,hr⟩
  funext k
  by_cases hk:k=b <;> simp [PH.upd,PH.uni,PH.one,hk]
theorem zvh {b:Nat} {o:Obj} {r:List HP} {h:PH} (hb:h b=none) (hh:stars r h):stars (pt b o::r) (h.upd b o) := by
  refine ⟨PH.one b o,h,zg1 hb (fun k hk=>by simp [PH.one,hk]),?_,rfl,hh⟩
  funext k
  by_cases hk:k=b <;> simp [PH.upd,PH.uni,PH.one,hk]
def Dup (A:HP):Prop := ∀ h,A h → ∀ k,h k=none ∨ ∃ o,h k=some (o,true)
theorem zlk {A:HP} (hA:Dup A) {r:List HP} {h:PH} (hh:stars (A::r) h):stars (A::A::r) h := by
  obtain ⟨h1,h2,d,rfl,h3,hr⟩ := hh
  have hdd:h1.disj h1 := fun k=>by
    rcases hA h1 h3 k with h | ⟨o,h⟩
    · exact .inl h
    · exact .inr (.inr ⟨rfl,o,h⟩)
  refine ⟨h1,h1.uni h2,(PH.disj_uni_right d).2 ⟨hdd,d⟩,?_,h3,h1,h2,d,rfl,h3,hr⟩
  funext k
  simp only [PH.uni]
  cases h1 k <;> rfl
theorem Dup.ptR {b:Nat} {o:Obj} : Dup (ptR b o) := by
  rintro h rfl k
  by_cases hk:k=b
  · exact .inr ⟨o,by simp [PH.oneR,hk]⟩
  · exact .inl (by simp [PH.oneR,hk])
theorem Dup.pur {p:Prop} (hp:∀ h:PH,p → ∀ k,h k=none ∨ ∃ o,h k=some (o,true)):Dup (pur p) := fun h hh=>hp h hh
def emp (p:Prop):HP := fun h=>p∧h=fun _=>none
theorem Dup.emp {p:Prop} : Dup (emp p) := by
  rintro h ⟨_,rfl⟩ k; exact .inl rfl
theorem stars_emp {p:Prop} {r:List HP} {h:PH} : stars (emp p::r) h↔p∧stars r h := by
  constructor
  · rintro ⟨h1,h2,d,rfl,⟨hp,_⟩,hr⟩; exact ⟨hp,ze4 r d hr⟩
  · rintro ⟨hp,hr⟩; exact ⟨fun _=>none,h,fun k => .inl rfl,by funext k; simp [PH.uni],⟨hp,rfl⟩,hr⟩
def starX:List HP→HP
  | []=>fun h=>h=fun _=>none
  | A::r=>fun h => ∃ h1 h2,PH.disj h1 h2∧h=PH.uni h1 h2∧A h1∧starX r h2
theorem Dup.starX:∀ {Hs:List HP},(∀ A ∈ Hs,Dup A)→Dup (starX Hs)
  | [],_=>by rintro h rfl k; exact .inl rfl
  | A::r,hd=>by
    rintro h ⟨h1,h2,d,rfl,hA,hr⟩ k
    have e1 := hd A (by simp) h1 hA k
    have e2 := Dup.starX (Hs:=r) (fun B hB=>hd B (by simp [hB])) h2 hr k
    rcases e1 with e1 | ⟨o,e1⟩
    · simpa [PH.uni,e1] using e2
    · exact .inr ⟨o,by simp [PH.uni,e1]⟩
theorem stars_starX:∀ {Hs r:List HP} {h:PH},stars (starX Hs::r) h↔stars (Hs ++ r) h := by
  intro Hs
  induction Hs with
  | nil =>
    intro r h
    constructor
    · rintro ⟨h1,h2,d,rfl,_,hr⟩; exact ze4 r d hr
    · intro hh; exact ⟨fun _=>none,h,fun k => .inl rfl,by funext k; simp [PH.uni],rfl,hh⟩
  | cons A Hs ih =>
    intro r h
    constructor
    · rintro ⟨h12,h3,d,rfl,⟨h1,h2,d',rfl,hA,hr⟩,hr3⟩
      have ⟨d1,d2⟩ := (PH.disj_uni_left d').1 d
      exact ⟨h1,h2.uni h3,(PH.disj_uni_right d2).2 ⟨d',d1⟩,PH.uni_assoc _ _ _,hA,ih.1 ⟨h2,h3,d2,rfl,hr,hr3⟩⟩
    · rintro ⟨h1,h23,d,rfl,hA,hr⟩
      obtain ⟨h2,h3,d',rfl,h2',h3'⟩ := ih.2 hr
      have ⟨d1,d2⟩ := (PH.disj_uni_right d').1 d
      exact ⟨h1.uni h2,h3,(PH.disj_uni_left d1).2 ⟨d2,d'⟩,(PH.uni_assoc _ _ _).symm,⟨h1,h2,d1,rfl,hA,h2'⟩,h3'⟩
def hpg (g:Nat→Bool) (w:World):PH := fun b=>w.heap[b]?.map fun o=>(o,g b)
def hp (w:World):PH := hpg (fun _=>false) w
structure St (W w:World) (H:List HP):Prop where
  os:w.os=W.os
  tape:w.tape=W.tape
  output:w.output=W.output
  heap:∃ g,stars H (hpg g w)
section
variable {W w:World} {H H':List HP}
theorem St.imp (h:St W w H) (hi:∀ h,stars H h→stars H' h):St W w H' := ⟨h.os,h.tape,h.output,let ⟨g,hg⟩ := h.heap; ⟨g,hi _ hg⟩⟩
theorem St.perm (h:St W w H) (hp:H.Perm H'):St W w H' := h.imp (zbd hp)
theorem St.drew (h:St W w H):St W w.drew H := ⟨h.os,h.tape,h.output,h.heap⟩
theorem St.drawn (h:St W w H) (n:Nat):St W { w with drawn := n } H := ⟨h.os,h.tape,h.output,h.heap⟩
theorem zhi {g:Nat→Bool} {w:World} {b:Nat} {o:Obj} {t:Bool} (h:hpg g w b=some (o,t)):w.heap[b]? = some o := by
  unfold hpg at h
  cases hb:w.heap[b]? with
  | none=>rw [hb] at h; cases h
  | some x=>rw [hb] at h; simp at h; rw [h.1]
theorem St.blk {b:Nat} {o:Obj} (h:St W w (pt b o::H)):w.heap[b]? = some o := let ⟨_,hg⟩ := h.heap; zhi (zrg hg)
theorem St.blkR {b:Nat} {o:Obj} (h:St W w (ptR b o::H)):w.heap[b]? = some o := let ⟨_,hg⟩ := h.heap; zhi (zvf hg)
theorem St.share {b:Nat} {o:Obj} (h:St W w (pt b o::H)):St W w (ptR b o::H) := by
  obtain ⟨g,h1,h2,d,e,rfl,hr⟩ := h.heap
  refine ⟨h.os,h.tape,h.output,fun k=>if k=b then true else g k,PH.oneR b o,h2,zg1 (zrh d) (fun k hk=>by simp [PH.oneR,hk]),?_,rfl,hr⟩
  funext k
  have hk := congrFun e k
  by_cases hkb:k=b
  · subst hkb
    simp only [PH.uni,PH.one,if_true,Option.some_or,hpg] at hk
    have hw := zhi (g:=g) (w:=w) (b:=k) hk
    simp [hpg,hw,PH.uni,PH.oneR]
  · simp only [hpg,PH.uni,PH.one,PH.oneR,hkb,if_false] at hk ⊢
    exact hk
theorem zm2 {g:Nat→Bool} {w:World} {b:Nat} {o o':Obj} (h:hpg g w b=some (o,false)):hpg g { w with heap := w.heap.setIfInBounds b o' } = (hpg g w).upd b o' := by
  have hw := zhi h
  have hb:b < w.heap.size := by
    rcases Nat.lt_or_ge b w.heap.size with h' | h'
    · exact h'
    · simp [Array.getElem?_eq_none h'] at hw
  have hgb:g b=false := by simp [hpg,hw] at h; exact h
  funext k
  simp only [hpg,PH.upd]
  rw [Array.getElem?_setIfInBounds]
  by_cases hk:k=b
  · subst hk; simp [hb,hgb]
  · have:¬ b=k := fun e=>hk e.symm
    simp [hk,this]
theorem St.setObj {b:Nat} {o o':Obj} (h:St W w (pt b o::H)):St W { w with heap := w.heap.setIfInBounds b o' } (pt b o' :: H) := by
  obtain ⟨g,hg⟩ := h.heap
  refine ⟨h.os,h.tape,h.output,g,?_⟩
  rw [zm2 (zrg hg)]
  exact zvg hg
theorem zuv {w:World} {b i:Nat} {c:Array Value} {T:TypeId} {fr:Nat × Nat} {v:Value} (hb:w.heap[b]? = some (.cells c T fr)) :
    w.setCell ⟨b,i,none⟩ v = { w with heap := w.heap.setIfInBounds b (.cells (c.setIfInBounds i v) T fr) } := by
  unfold World.setCell
  congr 1
  apply Array.ext_getElem?
  intro k
  rw [Array.getElem?_modify,Array.getElem?_setIfInBounds]
  have hlt:b < w.heap.size := by
    rcases Nat.lt_or_ge b w.heap.size with h' | h'
    · exact h'
    · simp [Array.getElem?_eq_none h'] at hb
  by_cases hk:b=k
  · subst hk; rw [if_pos rfl,if_pos rfl,if_pos hlt,hb]; rfl
  · simp [hk]
theorem St.setCell {b i:Nat} {c:Array Value} {T:TypeId} {fr:Nat × Nat} {v:Value} (h:St W w (pt b (.cells c T fr)::H)) :
    St W (w.setCell ⟨b,i,none⟩ v) (pt b (.cells (c.setIfInBounds i v) T fr)::H) := by
  rw [zuv h.blk]
  exact h.setObj
theorem St.alloc (h:St W w H) (o:Obj):St W (w.alloc o) (pt w.heap.size o::H) := by
  obtain ⟨g,hg⟩ := h.heap
  refine ⟨h.os,h.tape,h.output,fun k=>if k=w.heap.size then false else g k,?_⟩
  have:hpg (fun k=>if k=w.heap.size then false else g k) (w.alloc o)=(hpg g w).upd w.heap.size o := by
    funext k
    simp only [hpg,PH.upd,World.alloc,Array.getElem?_push]
    by_cases hk:k=w.heap.size
    · simp [hk]
    · simp [hk]
  rw [this]
  exact zvh (by simp [hpg]) hg
theorem St.cell {b i:Nat} {c:Array Value} {T:TypeId} {fr:Nat × Nat} (h:St W w (pt b (.cells c T fr)::H)):w.cell? ⟨b,i,none⟩=c[i]? := by
  unfold World.cell?
  rw [show w.heap[({ block := b,off := i,spot := none } : Addr).block]? = _ from h.blk]
  simp
theorem St.frozen {b i:Nat} {c:Array Value} {T:TypeId} {lo hi:Nat} (h:St W w (pt b (.cells c T (lo,hi))::H)) :
    w.frozen? ⟨b,i,none⟩=(decide (lo≤i) && decide (i < hi)) := by
  unfold World.frozen?
  rw [show w.heap[({ block := b,off := i,spot := none } : Addr).block]? = _ from h.blk]
theorem St.tail {A:HP} (h:St W w (A::H)):St W w H := h.imp fun _=>zby
theorem St.pur_iff {p:Prop} : St W w (pur p::H)↔p∧St W w H :=
  ⟨fun h=>let ⟨g,hg⟩ := h.heap; let ⟨x,hx⟩ := stars_pur.1 hg; ⟨x,h.os,h.tape,h.output,g,hx⟩,fun ⟨x,h⟩=>let ⟨g,hg⟩ := h.heap; ⟨h.os,h.tape,h.output,g,stars_pur.2 ⟨x,hg⟩⟩⟩
end
structure Foc (H:List HP) (A:HP) (C:HP→List HP):Prop where
  out:H=C A
  ctx:∃ L R, ∀ X,C X=L ++ X::R
structure Del (H:List HP) (A:HP) (R:List HP):Prop where
  out:H.Perm (A::R)
structure Dels (H:List HP) (As:List HP) (R:List HP):Prop where
  out:H.Perm (As ++ R)
theorem Foc.focus {H:List HP} {A:HP} {C:HP→List HP} (f:Foc H A C):∃ F,H.Perm (A::F) ∧ ∀ X,(C X).Perm (X::F) := by
  obtain ⟨L,R,hc⟩ := f.ctx
  refine ⟨L ++ R,?_,fun X => ?_⟩
  · rw [f.out,hc]; exact List.perm_middle
  · rw [hc]; exact List.perm_middle
theorem Dels.nil {H:List HP} : Dels H [] H := ⟨List.Perm.refl _⟩
theorem Dels.cons {H H' R:List HP} {A:HP} {As:List HP} (h:Del H A H') (h':Dels H' As R):Dels H (A::As) R :=
  ⟨h.out.trans (List.Perm.cons A h'.out)⟩
theorem Del.of {L R:List HP} {A:HP} : Del (L ++ A::R) A (L ++ R) := ⟨List.perm_middle⟩
section
variable {X0 X1 X2 X3 X4 X5 X6 X7 X8 X9 X10 X11 A:HP} {R:List HP}
theorem foc0:Foc (A::R) A (fun X=>X::R) := ⟨rfl,[],R,fun _=>rfl⟩
theorem foc1:Foc (X0::A::R) A (fun X=>X0::X::R) := ⟨rfl,[X0],R,fun _=>rfl⟩
theorem foc2:Foc (X0::X1::A::R) A (fun X=>X0::X1::X::R) := ⟨rfl,[X0,X1],R,fun _=>rfl⟩
theorem foc3:Foc (X0::X1::X2::A::R) A (fun X=>X0::X1::X2::X::R) := ⟨rfl,[X0,X1,X2],R,fun _=>rfl⟩
theorem foc4:Foc (X0::X1::X2::X3::A::R) A (fun X=>X0::X1::X2::X3::X::R) := ⟨rfl,[X0,X1,X2,X3],R,fun _=>rfl⟩
theorem foc5:Foc (X0::X1::X2::X3::X4::A::R) A (fun X=>X0::X1::X2::X3::X4::X::R) := ⟨rfl,[X0,X1,X2,X3,X4],R,fun _=>rfl⟩
theorem foc6:Foc (X0::X1::X2::X3::X4::X5::A::R) A (fun X=>X0::X1::X2::X3::X4::X5::X::R) := ⟨rfl,[X0,X1,X2,X3,X4,X5],R,fun _=>rfl⟩
theorem foc7:Foc (X0::X1::X2::X3::X4::X5::X6::A::R) A (fun X=>X0::X1::X2::X3::X4::X5::X6::X::R) := ⟨rfl,[X0,X1,X2,X3,X4,X5,X6],R,fun _=>rfl⟩
theorem foc8:Foc (X0::X1::X2::X3::X4::X5::X6::X7::A::R) A (fun X=>X0::X1::X2::X3::X4::X5::X6::X7::X::R) := ⟨rfl,[X0,X1,X2,X3,X4,X5,X6,X7],R,fun _=>rfl⟩
theorem foc9:Foc (X0::X1::X2::X3::X4::X5::X6::X7::X8::A::R) A (fun X=>X0::X1::X2::X3::X4::X5::X6::X7::X8::X::R) := ⟨rfl,[X0,X1,X2,X3,X4,X5,X6,X7,X8],R,fun _=>rfl⟩
theorem del0:Del (A::R) A R := ⟨List.Perm.refl _⟩
theorem del1:Del (X0::A::R) A (X0::R) := Del.of (L:=[X0])
theorem del2:Del (X0::X1::A::R) A (X0::X1::R) := Del.of (L:=[X0,X1])
theorem del3:Del (X0::X1::X2::A::R) A (X0::X1::X2::R) := Del.of (L:=[X0,X1,X2])
theorem del4:Del (X0::X1::X2::X3::A::R) A (X0::X1::X2::X3::R) := Del.of (L:=[X0,X1,X2,X3])
theorem del5:Del (X0::X1::X2::X3::X4::A::R) A (X0::X1::X2::X3::X4::R) := Del.of (L:=[X0,X1,X2,X3,X4])
theorem del6:Del (X0::X1::X2::X3::X4::X5::A::R) A (X0::X1::X2::X3::X4::X5::R) := Del.of (L:=[X0,X1,X2,X3,X4,X5])
theorem del7:Del (X0::X1::X2::X3::X4::X5::X6::A::R) A (X0::X1::X2::X3::X4::X5::X6::R) := Del.of (L:=[X0,X1,X2,X3,X4,X5,X6])
theorem del8:Del (X0::X1::X2::X3::X4::X5::X6::X7::A::R) A (X0::X1::X2::X3::X4::X5::X6::X7::R) := Del.of (L:=[X0,X1,X2,X3,X4,X5,X6,X7])
theorem del9:Del (X0::X1::X2::X3::X4::X5::X6::X7::X8::A::R) A (X0::X1::X2::X3::X4::X5::X6::X7::X8::R) := Del.of (L:=[X0,X1,X2,X3,X4,X5,X6,X7,X8])
theorem del10:Del (X0::X1::X2::X3::X4::X5::X6::X7::X8::X9::A::R) A (X0::X1::X2::X3::X4::X5::X6::X7::X8::X9::R) := Del.of (L:=[X0,X1,X2,X3,X4,X5,X6,X7,X8,X9])
theorem del11:Del (X0::X1::X2::X3::X4::X5::X6::X7::X8::X9::X10::A::R) A (X0::X1::X2::X3::X4::X5::X6::X7::X8::X9::X10::R) := Del.of (L:=[X0,X1,X2,X3,X4,X5,X6,X7,X8,X9,X10])
end
end Go.VG
namespace Go.VG
abbrev Slots := List (Nat × Value)
def look:Slots→Nat→Option Value
  | [],_=>none
  | (i,v)::r,k=>cond (Nat.beq i k) (some v) (look r k)
def ev (s:Slots):Operand→Option Value
  | .tmp t=>look s t
  | .const v=>some v
  | .global g=>some (.pointer (some ⟨g,0,none⟩))
  | .func f=>some (.func (.func f) #[] #[])
def evs (s:Slots):List Operand→Option (List Value)
  | []=>some []
  | x::r=>match ev s x,evs s r with
    | some v,some vs=>some (v::vs)
    | _,_=>none
theorem nbeq {d i:Nat} (h:¬ d=i):Nat.beq d i=false := by
  cases hb:Nat.beq d i
  · rfl
  · exact absurd (Nat.eq_of_beq_eq_true hb) h
structure Env where
  n:Nat
  r:Option Nat
  ds:List Deferred
abbrev fw (r:Option Nat):Fence := { Fence.wide with round := r }
structure Fits (n:Env) (s:Slots) (a:Act):Prop where
  size:a.tmps.size=n.n
  defers:a.defers=n.ds
  slot:∀ i v,look s i=some v→a.tmps[i]? = some v
theorem Fits.eval {n:Env} {s:Slots} {a:Act} (h:Fits n s a) {x:Operand} {v:Value} (he:ev s x=some v):a.eval x=v := by
  cases x with
  | tmp t =>
    have := h.slot t v he
    simp [Act.eval,Array.getD_eq_getD_getElem?,this]
  | const u=>simpa [ev,Act.eval] using he
  | global g=>simpa [ev,Act.eval] using he
  | func f=>simpa [ev,Act.eval] using he
theorem Fits.evals {n:Env} {s:Slots} {a:Act} (h:Fits n s a):∀ {xs:List Operand} {vs:List Value},evs s xs=some vs→xs.map a.eval=vs
  | [],vs,he=>by simp [evs] at he; simp [he]
  | x::r,vs,he=>by
    simp only [evs] at he
    split at he
    · rename_i v vs' h1 h2
      simp at he; subst he
      simp [h.eval h1,Fits.evals h h2]
    · simp at he
theorem Fits.put {n:Env} {s:Slots} {a:Act} (h:Fits n s a) {d:Nat} (hd:Nat.blt d n.n=true) (v:Value):Fits n ((d,v)::s) (a.put (some d) v) := by
  have hd':d < n.n := by simpa using hd
  refine ⟨by simp [Act.put,h.size],h.defers,fun i u hl => ?_⟩
  simp only [look] at hl
  by_cases hi:d=i
  · subst hi
    simp at hl; subst hl
    simp [Act.put,h.size,hd']
  · have:Nat.beq d i=false := nbeq hi
    rw [this] at hl
    simp only [Act.put]
    rw [Array.getElem?_setIfInBounds_ne hi]
    exact h.slot i u hl
theorem Fits.put_none {n:Env} {s:Slots} {a:Act} (h:Fits n s a) (v:Value):Fits n s (a.put none v) := h
theorem Fits.sub {n:Env} {s s':Slots} {a:Act} (h:Fits n s a) (hs:∀ i v,look s' i=some v→look s i=some v):Fits n s' a :=
  ⟨h.size,h.defers,fun i v hl=>h.slot i v (hs i v hl)⟩
def known (s:Slots):Slots→Prop
  | []=>True
  | (i,v)::r=>look s i=some v∧known s r
theorem known.sub {s:Slots} : ∀ {s':Slots},known s s' → ∀ i v,look s' i=some v→look s i=some v
  | [],_,_,_,h=>by simp [look] at h
  | (j,u)::r,hk,i,v,h=>by
    simp only [look] at h
    by_cases hji:j=i
    · subst hji; simp at h; subst h; exact hk.1
    · have:Nat.beq j i=false := nbeq hji
      rw [this] at h
      exact known.sub hk.2 i v h
def _root_.Go.Oper.wpN (P:Program) (o:Oper) (a:Act) (w:World) (next:Act→World→Prop) (Q:Exit→Act→World→Prop):Prop :=
  o.wp P a w next Q ∧ ∀ c,o.op ≠ .defer c
theorem zjl {P:Program} {ρ:Operand→Value} {o:Oper} {w w':World} {x:Next} (h:(execOp ρ o).run P w = .ok x w') (hx:∀ d,x ≠ .defer d):∀ c,o.op ≠ .defer c := by
  intro c hc
  obtain ⟨dst,op,ty,pos,after,g⟩ := o
  simp only at hc; subst hc
  simp only [execOp,Sem.run_bind] at h
  cases hr:(resolve ρ c ty).run P w with
  | ok d w1=>rw [hr] at h; simp [Result.andThen] at h; exact hx _ h.1.symm
  | halt x w1=>rw [hr] at h; simp [Result.andThen] at h
theorem znr {P:Program} {r:Option Nat} {o:Oper} {a:Act} {w:World} {next:Act→World→Prop} {Q:Exit→Act→World→Prop} (h:o.wpN P a w next Q):o.wpIn (fw r) 0 P a w next Q := by
  refine ⟨fun _ _=>trivial,?_⟩
  have h1 := h.1
  rw [Oper.semAt_eq _ _ _ h.2]
  unfold Oper.wp at h1
  generalize (execOp a.eval o).run P w=R at h1 ⊢
  unfold Oper.upon at h1
  unfold Oper.uponIn
  split at h1
  · exact h1
  · exact h1
  · exact h1
  · exact ⟨fun hd=>(by cases hd),(callsIn_wide (n:=0 - 1)).2 h1⟩
  · refine ⟨fun hd=>(by cases hd),fun c cs _ => ?_⟩
    obtain ⟨v,w',hR,hs⟩ := h1 c cs
    exact ⟨v,w',hR,stepsIn_wide.2 hs⟩
  · exact h1
  · exact h1.elim
section
variable (P:Program) (n:Env) (W:World)
def CJ (Q:Exit→Act→World→Prop) (c:Code) (s:Slots) (H:List HP):Prop := ∀ a w,Fits n s a→St W w H→c.wpIn (fw n.r) 0 P Q a w
def RJ (ops:Array Oper) (Q:Exit→Act→World→Prop) (l:List Oper) (s:Slots) (H:List HP):Prop := ∀ a w,Fits n s a→St W w H→wpListIn (fw n.r) 0 P ops Q l a w
def QJ (Q:Exit→Act→World→Prop) (e:Exit) (s:Slots) (H:List HP):Prop := ∀ a w,Fits n s a→St W w H→Q e a w
def OJ (o:Oper) (s:Slots) (H:List HP) (K:Slots→List HP→Prop):Prop :=
  ∀ a w,Fits n s a→St W w H → ∀ (next:Act→World→Prop) (Q:Exit→Act→World→Prop),
    (∀ s' H' a' w',K s' H' → Fits n s' a' → St W w' H' → next a' w')→o.wpN P a w next Q
def CPost {X:Type} (res:X→Value) (pf:X→Prop) (post:X→List HP→List HP) (F:List HP) (e:Ending) (w':World):Prop := ∃ x,e = .returned (res x)∧pf x∧St W w' (post x F)
def CSpec (f:FuncId) (args:List Value) (pre:List HP) {X:Type} (res:X→Value) (pf:X→Prop) (post:X→List HP→List HP):Prop :=
  ∀ F w,St W w (pre ++ F)→Calls P f args.toArray w (CPost W res pf post F)
end
def Ent (H H':List HP):Prop := ∀ h,stars H h→stars H' h
theorem Ent.refl {H:List HP} : Ent H H := fun _ h=>h
theorem Ent.done {H:List HP} : Ent H [] := fun _ _=>trivial
theorem Ent.take {H R r:List HP} {A:HP} (hd:Del H A R) (h:Ent R r):Ent H (A::r) := fun _ hh=>zas h (zbd hd.out _ hh)
theorem Ent.takeC {H R r:List HP} {A A':HP} (hd:Del H A R) (he:A=A') (h:Ent R r):Ent H (A' :: r) := fun _ hh=>by subst he; exact zas h (zbd hd.out _ hh)
theorem Ent.pure {H r:List HP} {p:Prop} (hp:p) (h:Ent H r):Ent H (pur p::r) := fun _ hh=>stars_pur.2 ⟨hp,h _ hh⟩
theorem Ent.drop {H r:List HP} {A:HP} (h:Ent H r):Ent (A::H) r := fun _ hh=>h _ (zby hh)
theorem Ent.trans {H H' H'':List HP} (h:Ent H H') (h':Ent H' H''):Ent H H'' := fun _ hh=>h' _ (h _ hh)
theorem Ent.ex {α:Type} {H r:List HP} {f:α→HP} (x:α) (h:Ent H (f x::r)):Ent H (ex f::r) := fun _ hh=>stars_ex.2 ⟨x,h _ hh⟩
theorem Ent.star {H r Hs:List HP} (h:Ent H (Hs ++ r)):Ent H (star Hs::r) := fun _ hh=>stars_star.2 (h _ hh)
section
variable {P:Program} {n:Env} {W:World} {Q:Exit→Act→World→Prop} {s:Slots} {H:List HP} {ops:Array Oper}
theorem zab {x y:Code} (h:CJ P n W (Exit.then (y.wpIn (fw n.r) 0 P Q) Q) x s H):CJ P n W Q (.seq x y) s H :=
  fun a w hf hs=>wpIn_seq (h a w hf hs)
theorem zbh (h:QJ n W Q .normal s H):CJ P n W Q .skip s H := fun a w hf hs=>wpIn_skip (h a w hf hs)
theorem zaf (h:QJ n W Q .ret s H):CJ P n W Q .ret s H := fun a w hf hs=>wpIn_ret (h a w hf hs)
theorem zbc {id:Nat} (h:QJ n W Q (.exit id) s H):CJ P n W Q (.exit id) s H := fun a w hf hs=>wpIn_exit (h a w hf hs)
theorem zao {id:Nat} {c:Code} (h:CJ P n W (Exit.inBlock id Q) c s H):CJ P n W Q (.block id c) s H := fun a w hf hs=>wpIn_block (h a w hf hs)
theorem zxm {l:Nat} (h:QJ n W Q .normal s H):CJ P n W Q (.label l) s H := fun a w hf hs=>wpIn_label (h a w hf hs)
theorem za1 {c:Operand} {x y:Code} {t:Bool} (hc:ev s c=some (.bool t)) (hx:t=true→CJ P n W Q x s H) (hy:t=false→CJ P n W Q y s H) :
    CJ P n W Q (.cond c x y) s H :=
  fun a w hf hs=>wpIn_cond_split (hf.eval hc) (fun h=>hx h a w hf hs) (fun h=>hy h a w hf hs)
theorem zag {id:Nat} {l:List Oper} (h:RJ P n W l.toArray Q l s H):CJ P n W Q (.region id l.toArray false) s H :=
  fun a w hf hs=>wpIn_region_lit (h a w hf hs)
theorem za0 (h:QJ n W Q .normal s H):RJ P n W ops Q [] s H := fun a w hf hs=>h a w hf hs
theorem RJ_op {o:Oper} {rest:List Oper} (hg:o.guard=none) (h:OJ P n W o s H fun s' H' => RJ P n W ops Q rest s' H'):RJ P n W ops Q (o::rest) s H :=
  fun a w hf hs=>wpListIn_plain hg fun K hK=>znr (h a w hf hs K Q fun _ _ a' w' hk hf' hs' => hK a' w' (hk a' w' hf' hs'))
theorem wpSkip {r:Option Nat} {o:Oper} {rest:List Oper} {a:Act} {w:World} (hw:Region.wanted o (yielded ops a.tmps)=false) (h:wpListIn (fw r) 0 P ops Q rest (a.put o.dst undef) w) :
    wpListIn (fw r) 0 P ops Q (o::rest) a w := by
  simp only [wpListIn,hw]
  exact ⟨fun _ _=>trivial,h⟩
theorem zoh {n:Env} {s:Slots} {a:Act} (hf:Fits n s a) {j d:Nat} {t:Bool} (hd:(ops[j]?).bind (·.dst)=some d) (hl:look s d=some (.bool t)) :
    yielded ops a.tmps j=some t := by
  simp [yielded,hd,hf.slot d _ hl]
theorem zq9 {n:Env} {s:Slots} {a:Act} (hf:Fits n s a) {j d:Nat} (hd:(ops[j]?).bind (·.dst)=some d) (hl:look s d=some undef) :
    yielded ops a.tmps j=none := by
  simp [yielded,hd,hf.slot d _ hl,undef]
theorem zar {y:Code} (h:CJ P n W Q y s H):QJ n W (Exit.then (y.wpIn (fw n.r) 0 P Q) Q) .normal s H := fun a w hf hs=>h a w hf hs
theorem zak {K:Act→World→Prop} (h:QJ n W Q .ret s H):QJ n W (Exit.then K Q) .ret s H := h
theorem zay {K:Act→World→Prop} {id:Nat} (h:QJ n W Q (.exit id) s H):QJ n W (Exit.then K Q) (.exit id) s H := h
theorem zah {id:Nat} (h:QJ n W Q .normal s H):QJ n W (Exit.inBlock id Q) .normal s H := h
theorem zax {id:Nat} (h:QJ n W Q .ret s H):QJ n W (Exit.inBlock id Q) .ret s H := h
theorem zat {id:Nat} (h:QJ n W Q .normal s H):QJ n W (Exit.inBlock id Q) (.exit id) s H := fun a w hf hs=>by
  simpa [Exit.inBlock] using h a w hf hs
def forget (ks:List Nat):Slots→Slots
  | []=>[]
  | (i,v)::r=>cond (ks.any (Nat.beq i)) (forget ks r) ((i,v)::forget ks r)
theorem zff (ks:List Nat):∀ (s:Slots) (i:Nat) (v:Value),look (forget ks s) i=some v→look s i=some v∧ks.any (Nat.beq i)=false
  | [],_,_,h=>by simp [forget,look] at h
  | (j,u)::r,i,v,h=>by
    simp only [forget] at h
    by_cases hj:ks.any (Nat.beq j)=true
    · rw [hj] at h
      have ⟨h1,h2⟩ := zff ks r i v h
      refine ⟨?_,h2⟩
      have hne:¬ j=i := fun e=>by subst e; rw [hj] at h2; cases h2
      simp only [look,nbeq hne]
      exact h1
    · have hj':ks.any (Nat.beq j)=false := by
        cases hb:ks.any (Nat.beq j) with
        | false=>rfl
        | true=>exact absurd hb hj
      rw [hj'] at h
      simp only [cond_false,look] at h ⊢
      by_cases hji:j=i
      · subst hji
        refine ⟨?_,hj'⟩
        simpa using h
      · rw [nbeq hji] at h ⊢
        exact zff ks r i v h
def Kp (ks:List Nat) (s0 s:Slots):Prop := ∀ i v,look (forget ks s0) i=some v→look s i=some v
theorem Kp.base {ks:List Nat} {s0:Slots} : Kp ks s0 (forget ks s0) := fun _ _ h=>h
theorem Kp.self {ks:List Nat} {s0:Slots} : Kp ks s0 s0 := fun i v h=>(zff ks s0 i v h).1
theorem Kp.cons {ks:List Nat} {s0 s:Slots} {k:Nat} {v:Value} (hk:ks.any (Nat.beq k)=true) (h:Kp ks s0 s):Kp ks s0 ((k,v)::s) := fun i u hl=>by
  have h2 := (zff ks s0 i u hl).2
  have hne:¬ k=i := fun e=>by subst e; rw [hk] at h2; cases h2
  simp only [look,nbeq hne]
  exact h i u hl
theorem Kp.forget {ks ks':List Nat} {s0 s:Slots} (hk:ks'.all (fun k=>ks.any (Nat.beq k))=true) (h:Kp ks s0 s):Kp ks s0 (forget ks' s) := fun i u hl=>by
  have h2 := (zff ks s0 i u hl).2
  have h3 := h i u hl
  have hn:ks'.any (Nat.beq i)=false := by
    cases hb:ks'.any (Nat.beq i) with
    | false=>rfl
    | true =>
      obtain ⟨k,hk1,hk2⟩ := List.any_eq_true.1 hb
      have := List.all_eq_true.1 hk k hk1
      have e:i=k := Nat.eq_of_beq_eq_true hk2
      subst e
      rw [this] at h2; cases h2
  clear h hl h2
  induction s with
  | nil=>exact h3
  | cons p r ih =>
    obtain ⟨j,w⟩ := p
    simp only [VG.forget]
    by_cases hj:ks'.any (Nat.beq j)=true
    · rw [hj]
      have hne:¬ j=i := fun e=>by subst e; rw [hj] at hn; cases hn
      simp only [look,nbeq hne,cond_false] at h3
      exact ih h3
    · have hj':ks'.any (Nat.beq j)=false := by
        cases hb:ks'.any (Nat.beq j) with
        | false=>rfl
        | true=>exact absurd hb hj
      rw [hj']
      simp only [cond_false,look] at h3 ⊢
      by_cases hji:j=i
      · subst hji; simpa using h3
      · rw [nbeq hji] at h3 ⊢
        exact ih h3
theorem zhw:∀ (a b:Slots) (i:Nat) (v:Value),look (a ++ b) i=some v→look a i=some v∨look b i=some v
  | [],_,_,_,h => .inr h
  | (j,u)::r,b,i,v,h=>by
    simp only [List.cons_append,look] at h ⊢
    by_cases hji:j=i
    · subst hji; simp at h ⊢; exact .inl h
    · rw [nbeq hji] at h ⊢; exact zhw r b i v h
def ziq (n:Env) (W:World) {X:Type} (ks:List Nat) (ins:X→Slots) (hin:X→List HP→List HP) (pf:X→Prop) (μ:X→Nat) (s0:Slots) (R:List HP) (x:X) (Q:Exit→Act→World→Prop):Exit→Act→World→Prop
  | .normal,a,w => ∃ x',μ x' < μ x∧pf x' ∧ Fits n (ins x' ++ forget ks s0) a∧St W w (hin x' R)
  | e,a,w=>Q e a w
theorem za8 {X:Type} (ks:List Nat) (ins:X→Slots) (hin:X→List HP→List HP) (pf:X→Prop) (μ:X→Nat) {c:Code} {R:List HP} (x0:X) (hp0:pf x0) (hs0:known s (ins x0)) (hH0:Ent H (hin x0 R))
    (round:∀ x,pf x→CJ P n W (ziq n W ks ins hin pf μ s R x Q) c (ins x ++ forget ks s) (hin x R)):CJ P n W Q (.loop c) s H := by
  intro a w hf hs b kk cs hro hb hr
  have hst:∀ i v,look (ins x0 ++ forget ks s) i=some v→look s i=some v := fun i v h=>by
    rcases zhw _ _ _ _ h with h | h
    · exact known.sub hs0 i v h
    · exact (zff ks s i v h).1
  have key:∀ m x a w,pf x→μ x=m→Fits n (ins x ++ forget ks s) a→St W w (hin x R) →
      ∃ e a' w',Q e a' w' ∧ ArrivesIn (Machine.fenced P (fw n.r)) P (lone (b.atR a (.code c :: .inLoop c::kk)) cs w) b kk cs e a' w' := by
    intro m
    induction m using Nat.strongRecOn with
    | _ m ih =>
      intro x a w hp hk hf hs
      obtain ⟨e,a₁,w₁,hq,harr⟩ := round x hp a w hf hs b (.inLoop c::kk) cs hro hb hr
      cases e with
      | normal =>
        obtain ⟨x',hlt,hp',hf',hs'⟩ := hq
        obtain ⟨e₂,a₂,w₂,hq₂,harr₂⟩ := ih (μ x') (hk ▸ hlt) x' a₁ w₁ hp' rfl hf' hs'
        exact ⟨e₂,a₂,w₂,hq₂,.of_steps (StepsIn.trans harr (.one (fenced_calm hb hr rfl) stepR_inLoop)) harr₂⟩
      | exit id=>exact ⟨_,a₁,w₁,hq,.pass (x := .inLoop c) rfl (fun _ _ => .inl (by simp)) harr⟩
      | goto l=>exact ⟨_,a₁,w₁,hq,.pass (x := .inLoop c) rfl (fun _ _ => .inl (by simp)) harr⟩
      | ret=>exact ⟨_,a₁,w₁,hq,.pass (x := .inLoop c) rfl (fun _ _ => .inl (by simp)) harr⟩
      | panic ch=>exact ⟨_,a₁,w₁,hq,.pass (x := .inLoop c) rfl (fun _ _ => .inl (by simp)) harr⟩
      | outgrown=>exact ⟨_,a₁,w₁,hq,.pass (x := .inLoop c) rfl (fun _ _ => .inl (by simp)) harr⟩
  obtain ⟨e,a',w',hq,harr⟩ := key _ x0 a w hp0 rfl (hf.sub hst) (hs.imp hH0)
  exact ⟨e,a',w',hq,.of_steps (.one (fenced_calm hb hr rfl) stepR_loop) harr⟩
section
variable {X:Type} {ks:List Nat} {ins:X→Slots} {hin:X→List HP→List HP} {pf:X→Prop} {μ:X→Nat} {x:X} {R:List HP} {s0:Slots}
theorem zba (x':X) (hμ:μ x' < μ x) (hp:pf x') (hk:Kp ks s0 s) (hs':known s (ins x')) (hH':Ent H (hin x' R)):QJ n W (ziq n W ks ins hin pf μ s0 R x Q) .normal s H :=
  fun _ _ hf hs=>⟨x',hμ,hp,hf.sub (fun i v h=>by
    rcases zhw _ _ _ _ h with h | h
    · exact known.sub hs' i v h
    · exact hk i v h),hs.imp hH'⟩
theorem zbm (h:QJ n W Q .ret s H):QJ n W (ziq n W ks ins hin pf μ s0 R x Q) .ret s H := h
theorem zau {id:Nat} (h:QJ n W Q (.exit id) s H):QJ n W (ziq n W ks ins hin pf μ s0 R x Q) (.exit id) s H := h
end
def zri (n:Env) (W:World) {X:Type} (ks:List Nat) (ins:X→Slots) (hin:X→List HP→List HP) (pf:X→Prop) (s0:Slots) (R:List HP) (a:Act) (w:World):Prop := ∃ x,pf x∧Fits n (ins x ++ forget ks s0) a∧St W w (hin x R)
theorem zz3 {X:Type} {ks:List Nat} {ins:X→Slots} {hin:X→List HP→List HP} {pf:X→Prop} {R:List HP} {s0:Slots} (x:X) (hp:pf x) (hk:Kp ks s0 s) (hs':known s (ins x)) (hH':Ent H (hin x R)) :
    QJ n W (Exit.then (zri n W ks ins hin pf s0 R) Q) .normal s H :=
  fun _ _ hf hs=>⟨x,hp,hf.sub (fun i v h=>by
    rcases zhw _ _ _ _ h with h | h
    · exact known.sub hs' i v h
    · exact hk i v h),hs.imp hH'⟩
theorem zdk {p:Prop} {c:Code} (h:p→CJ P n W Q c s H):CJ P n W Q c s (pur p::H) := fun a w hf hs=>let ⟨hp,hs'⟩ := St.pur_iff.1 hs; h hp a w hf hs'
theorem zbs {H':List HP} {c:Code} (hH:Ent H H') (h:CJ P n W Q c s H'):CJ P n W Q c s H := fun a w hf hs=>h a w hf (hs.imp hH)
theorem zcg {H':List HP} {l:List Oper} (hH:Ent H H') (h:RJ P n W ops Q l s H'):RJ P n W ops Q l s H := fun a w hf hs=>h a w hf (hs.imp hH)
theorem zvi {H':List HP} {e:Exit} (hH:Ent H H') (h:QJ n W Q e s H'):QJ n W Q e s H := fun a w hf hs=>h a w hf (hs.imp hH)
def EntX {α:Type} (H:List HP) (H':α→List HP):Prop := ∀ h,stars H h → ∃ x,stars (H' x) h
theorem Ent.transX {α:Type} {H H1:List HP} {H':α→List HP} (h:Ent H H1) (h':EntX H1 H'):EntX H H' := fun _ hh=>h' _ (h _ hh)
theorem zc7 {α:Type} {H':α→List HP} {c:Code} (hH:EntX H H') (h:∀ x,CJ P n W Q c s (H' x)):CJ P n W Q c s H := by
  intro a w hf hs
  obtain ⟨gg,hgg⟩ := hs.heap
  obtain ⟨x,hx⟩ := hH _ hgg
  exact h x a w hf ⟨hs.os,hs.tape,hs.output,gg,hx⟩
theorem zdy {p:Prop} {c:Code} (hp:∀ h,stars H h→p) (h:p→CJ P n W Q c s H):CJ P n W Q c s H :=
  fun a w hf hs=>h (let ⟨_,hgg⟩ := hs.heap; hp _ hgg) a w hf hs
theorem zhj {p:Prop} {l:List Oper} (hp:∀ h,stars H h→p) (h:p→RJ P n W ops Q l s H):RJ P n W ops Q l s H :=
  fun a w hf hs=>h (let ⟨_,hgg⟩ := hs.heap; hp _ hgg) a w hf hs
def args0:Nat→List Value→Slots
  | _,[]=>[]
  | i,v::r=>(i,v)::args0 (i + 1) r
theorem zg2:∀ (vs:List Value) (j i:Nat) (v:Value),look (args0 j vs) i=some v→j≤i∧vs[i - j]? = some v
  | [],_,_,_,h=>by simp [args0,look] at h
  | u::r,j,i,v,h=>by
    simp only [args0,look] at h
    by_cases hji:j=i
    · subst hji; simp at h; subst h; simp
    · have:Nat.beq j i=false := nbeq hji
      rw [this] at h
      obtain ⟨h1,h2⟩ := zg2 r (j + 1) i v h
      refine ⟨by omega,?_⟩
      rw [show i - j=(i - (j + 1)) + 1 by omega]
      simpa using h2
theorem CSpec.of_body {f:FuncId} {fn:Func} {c:Code} {args:List Value} {pre:List HP} {X:Type} {res:X→Value} {pf:X→Prop} {post:X→List HP→List HP}
    (hf:P.funcs[f]? = some fn) (hb:fn.body=some c) {n:Nat} (hn:fn.ntmps=n) (hargs:Nat.ble args.length n=true)
    (h:∀ F,CJ P ⟨n,none,[]⟩ W (bodyPost P fn (CPost W res pf post F)) c (args0 0 args) (pre ++ F)):CSpec P W f args pre res pf post := by
  intro F w hs
  refine calls_of_wp hf hb (wpIn_wide.1 (h F _ w ⟨?_,rfl,?_⟩ hs))
  · have:args.length≤n := by simpa using hargs
    simp [hn]; omega
  · intro i v hl
    obtain ⟨_,h2⟩ := zg2 args 0 i v hl
    have hlt:i < args.length := by
      rcases Nat.lt_or_ge i args.length with h' | h'
      · exact h'
      · simp [List.getElem?_eq_none h'] at h2
    simp only [Nat.sub_zero] at h2
    rw [Array.getElem?_append_left (by simpa using hlt)]
    simpa using h2
theorem zan {fn:Func} {R:Ending→World→Prop} {v:Value} {m:Nat} {r:Option Nat} (hr:∀ a w,Fits ⟨m,r,[]⟩ s a→St W w H→(results fn a.tmps).run P w = .ok v w) (h:∀ w,St W w H→R (.returned v) w) :
    QJ ⟨m,r,[]⟩ W (bodyPost P fn R) .ret s H :=
  fun a w hf hs=>⟨hf.defers,v,hr a w hf hs,h w hs⟩
theorem zce {fn:Func} {R:Ending→World→Prop} {v:Value} {m:Nat} {r:Option Nat} (hr:∀ a w,Fits ⟨m,r,[]⟩ s a→St W w H→(results fn a.tmps).run P w = .ok v w) (h:∀ w,St W w H→R (.returned v) w) :
    QJ ⟨m,r,[]⟩ W (bodyPost P fn R) .normal s H :=
  fun a w hf hs=>⟨hf.defers,v,hr a w hf hs,h w hs⟩
theorem res0 {fn:Func} (h:fn.results = #[]):∀ a w,Fits n s a→St W w H→(results fn a.tmps).run P w = .ok (.tuple #[]) w := fun _ _ _ _=>results_none h _ _ _
theorem res1 {fn:Func} {t:Tmp} {v:Value} (h:fn.results = #[.tmp t]) (hv:look s t=some v):∀ a w,Fits n s a→St W w H→(results fn a.tmps).run P w = .ok v w := fun a w hf _=>by
  have := hf.slot t v hv
  rw [results_tmp h,Array.getD_eq_getD_getElem?,this]; rfl
theorem res2 {fn:Func} {t u:Tmp} {v x:Value} (h:fn.results = #[.tmp t,.tmp u]) (hv:look s t=some v) (hx:look s u=some x) :
    ∀ a w,Fits n s a→St W w H→(results fn a.tmps).run P w = .ok (.tuple #[v,x]) w := fun a w hf _=>by
  have h1 := hf.slot t v hv
  have h2 := hf.slot u x hx
  rw [results_tmp2 h,Array.getD_eq_getD_getElem?,Array.getD_eq_getD_getElem?,h1,h2]; rfl
theorem res3 {fn:Func} {t u p:Tmp} {v x y:Value} (h:fn.results = #[.tmp t,.tmp u,.tmp p]) (hv:look s t=some v) (hx:look s u=some x) (hy:look s p=some y) :
    ∀ a w,Fits n s a→St W w H→(results fn a.tmps).run P w = .ok (.tuple #[v,x,y]) w := fun a w hf _=>by
  have h1 := hf.slot t v hv
  have h2 := hf.slot u x hx
  have h3 := hf.slot p y hy
  simp [results,h,Array.getD_eq_getD_getElem?,h1,h2,h3]
theorem CSpec.close {X:Type} {res:X→Value} {pf:X→Prop} {post:X→List HP→List HP} {F:List HP} {v:Value} (x:X) (hv:v=res x) (hp:pf x) (hH:Ent H (post x F)) :
    ∀ w,St W w H→CPost W res pf post F (.returned v) w :=
  fun _ hs=>⟨x,by rw [hv],hp,hs.imp hH⟩
end
end Go.VG
namespace Go.Proofs.Ts
structure TS where
  dn:Bool
  safe:Bool
  z:Bool
  k:Nat
  w:Nat
  nw:Nat→Nat→UInt64
  cd:Nat→Nat→List UInt64
def now (t:TS) (d a:Nat):UInt64 := t.nw d a
def cand (t:TS) (d a:Nat):List UInt64 := t.cd d a
def TS.use (t:TS) (c:Nat):TS := { t with k := t.k - c }
def TS.put (t:TS) (d a:Nat) (v:UInt64):TS := { t with z := t.z && decide (v=0),w := t.w + 1,nw := fun e b=>if d=e∧a=b then v else t.nw e b,cd := fun e b=>if d=e∧a=b then t.cd e b ++ [v] else t.cd e b }
def TS.fls (t:TS) (d:Nat):TS := { t with cd := fun e b=>if d=e then [t.nw e b] else t.cd e b }
def TS.down (t:TS):TS := { t with dn := true }
structure PC where
  L:Nat
  R:Nat
  c:Nat
  hL:L=3
  hR:1≤R∧R≤40
  hc:1≤c∧c≤2
def PC.O (C:PC):Nat := C.R * C.c
def PC.sz (C:PC):Nat := 16 + C.O
def PC.D (C:PC):Nat := (C.L - 1) * C.R * C.c
def parF (L c o:Nat):Nat := L - 1 - (o / c) % L
def legF (L c a:Nat):Nat := (L - 1 - (a / c / (L - 1)) % L + 1 + (a / c) % (L - 1)) % L
def offF (L c a:Nat):Nat := (a / c / (L - 1)) * c + a % c
def PC.par (C:PC) (o:Nat):Nat := parF C.L C.c o
def PC.leg (C:PC) (a:Nat):Nat := legF C.L C.c a
def PC.off (C:PC) (a:Nat):Nat := offF C.L C.c a
section
variable {C:PC} {a b o:Nat}
theorem PC.c12:C.c=1∨C.c=2 := by have := C.hc; omega
theorem PC.hO:1≤C.O∧C.O≤80 := by
  have h1 := C.hR
  unfold PC.O
  rcases @PC.c12 C with h | h <;> rw [h] <;> omega
theorem PC.Deq:C.D=2 * C.O := by
  unfold PC.D PC.O
  rw [C.hL,Nat.mul_assoc]
theorem PC.plc (h:a < C.D):C.leg a < C.L∧C.off a < C.O∧C.leg a≠C.par (C.off a)∧C.par (C.off a)=C.L - 1 - (a / C.c / (C.L - 1)) % C.L := by
  have h1 := C.hR
  rw [PC.Deq] at h
  unfold PC.O at h ⊢
  unfold PC.leg PC.off PC.par legF offF parF
  rw [C.hL]
  rcases @PC.c12 C with h2 | h2 <;> rw [h2] at h ⊢ <;> omega
theorem PC.inj (_ha:a < C.D) (_hb:b < C.D) (h1:C.leg a=C.leg b) (h2:C.off a=C.off b):a=b := by
  unfold PC.leg PC.off legF offF at *
  rw [C.hL] at h1 h2
  rcases @PC.c12 C with h3 | h3 <;> rw [h3] at h1 h2 <;> omega
theorem PC.parL (_h:o < C.O):C.par o < C.L := by
  unfold PC.par parF
  rw [C.hL]; omega
end
def xr (f:Nat→UInt64):Nat→UInt64
  | 0=>0
  | n + 1=>xr f n ^^^ f n
def upd (f:Nat→UInt64) (k:Nat) (w:UInt64):Nat→UInt64 := fun i=>if i=k then w else f i
theorem zrj {f g:Nat→UInt64} : ∀ {n:Nat},(∀ i,i < n→f i=g i)→xr f n=xr g n
  | 0,_=>rfl
  | n + 1,h=>by
    show xr f n ^^^ f n=xr g n ^^^ g n
    rw [zrj (fun i hi=>h i (by omega)),h n (by omega)]
theorem zuw (a b w:UInt64):(a ^^^ b) ^^^ b ^^^ w=a ^^^ w := by rw [UInt64.xor_assoc a b b,UInt64.xor_self,UInt64.xor_zero]
theorem zrk {f:Nat→UInt64} {k:Nat} {w:UInt64} : ∀ {n:Nat},k < n→xr (upd f k w) n=xr f n ^^^ f k ^^^ w
  | 0,h=>absurd h (by omega)
  | n + 1,h=>by
    show xr (upd f k w) n ^^^ upd f k w n=(xr f n ^^^ f n) ^^^ f k ^^^ w
    by_cases e:k=n
    · subst e
      have h1:xr (upd f k w) k=xr f k := zrj (fun i hi=>if_neg (by omega))
      have h2:upd f k w k=w := if_pos rfl
      rw [h1,h2,zuw]
    · have h2:upd f k w n=f n := if_neg (fun x=>e x.symm)
      rw [zrk (by omega),h2]; ac_rfl
structure Upd (s t:TS) (d a:Nat) (v:UInt64):Prop where
  now:∀ e b,Ts.now t e b=if d=e∧a=b then v else Ts.now s e b
  cand:∀ e b,Ts.cand t e b=if d=e∧a=b then Ts.cand s e b ++ [v] else Ts.cand s e b
structure Fls (C:PC) (s t:TS) (d:Nat):Prop where
  now:∀ e b,Ts.now t e b=Ts.now s e b
  cand:∀ e b,e < C.L→b < C.sz→Ts.cand t e b=if d=e then [Ts.now s e b] else Ts.cand s e b
def NC (C:PC) (s:TS):Prop := ∀ d a,d < C.L→a < C.sz→now s d a ∈ cand s d a
structure Restarted (C:PC) (s t:TS):Prop where
  now:∀ e b,e < C.L→b < C.sz→Ts.now t e b ∈ Ts.cand s e b
  cand:∀ e b,Ts.cand t e b=[Ts.now t e b]
def hdW (off leg:Nat):UInt64 := UInt64.ofNat (8 * off + leg)
structure PE where
  off:Nat
  leg:Nat
  w:UInt64
  p:UInt64
def slq (q:UInt64):Nat := 1 + 3 * (q.toNat % 2)
def exE (C:PC) (e:PE) (d o:Nat):Prop := o=e.off∧(d=e.leg∨d=C.par e.off)
def Al (s:TS) (d a:Nat) (P:UInt64→Prop):Prop := ∀ c ∈ cand s d a,P c
def bodyW (e:PE):Nat→UInt64
  | 0=>hdW e.off e.leg
  | 1=>e.w
  | _=>e.p
def Bd (s:TS) (d:Nat) (q:UInt64) (e:PE):Prop := ∀ i,i < 3→Al s d (slq q + i) (· = bodyW e i)
structure Lg (C:PC) (V:Nat→Nat→UInt64) (qo:UInt64) (e:PE) (q:UInt64) (e':PE) (hp hn:UInt64→Prop) (x:Nat→Nat→Prop) (nwP:Prop) (bn:Nat) (bc:Prop) (s:TS) (d:Nat):Prop where
  hd:Al s d 0 hp
  hn:hn (now s d 0)
  bd:qo≠0→Bd s d qo e
  dt:∀ o,o < C.O → ¬ x d o→Al s d (16 + o) (· = V d o)
  nw:nwP → ∀ o,o < C.O→now s d (16 + o)=V d o
  nb:∀ i,i < bn→now s d (slq q + i)=bodyW e' i
  nc:bc→Bd s d q e'
theorem sl_le {q:UInt64} : 1≤slq q∧slq q≤4 := by unfold slq; omega
theorem sl_ne {a b:UInt64} (h:slq a≠slq b) {i j:Nat} (hi:i < 3) (hj:j < 3):slq a + i≠slq b + j := by unfold slq at *; omega
section
variable {C:PC} {V V':Nat→Nat→UInt64} {st fl:Option Nat} {qo q:UInt64} {e e':PE} {hp hn hp' hn':UInt64→Prop} {x x':Nat→Nat→Prop} {nwP nwP' bc bc':Prop} {bn bn' p k i d f o a:Nat} {s t:TS} {v:UInt64}
theorem Lg.weaken (h:Lg C V qo e q e' hp hn x nwP bn bc s d) (h1:∀ c,hp c→hp' c) (h2:∀ c,hn c→hn' c) (h3:∀ o,x d o→x' d o) (h4:nwP' → nwP) (h5:bn' ≤ bn) (h6:bc' → bc):Lg C V qo e q e' hp' hn' x' nwP' bn' bc' s d :=
  ⟨fun c hc=>h1 c (h.hd c hc),h2 _ h.hn,h.bd,fun o ho hx=>h.dt o ho (fun z=>hx (h3 o z)),fun z=>h.nw (h4 z),fun i hi=>h.nb i (by omega),fun z=>h.nc (h6 z)⟩
theorem Lg.frame (h:Lg C V qo e q e' hp hn x nwP bn bc s d) (h1:∀ b,now t d b=now s d b) (h2:∀ b,b < C.sz→cand t d b=cand s d b):Lg C V qo e q e' hp hn x nwP bn bc t d := by
  have hO := @PC.hO C
  have hsz:C.sz=16 + C.O := rfl
  have s1 := @sl_le qo
  have s2 := @sl_le q
  refine ⟨fun c hc=>h.hd c ?_,by rw [h1]; exact h.hn,fun z i hi c hc=>h.bd z i hi c ?_,fun o ho hx c hc=>h.dt o ho hx c ?_,fun z o ho=>by rw [h1]; exact h.nw z o ho,fun i hi=>by rw [h1]; exact h.nb i hi,fun z i hi c hc=>h.nc z i hi c ?_⟩
  · rw [h2 0 (by omega)] at hc; exact hc
  · rw [h2 _ (by omega)] at hc; exact hc
  · rw [h2 _ (by omega)] at hc; exact hc
  · rw [h2 _ (by omega)] at hc; exact hc
theorem Lg.oth (h:Lg C V qo e q e' hp hn x nwP bn bc s d) (hu:Upd s t f a v) (hne:f≠d):Lg C V qo e q e' hp hn x nwP bn bc t d :=
  h.frame (fun b=>by rw [hu.now,if_neg (fun z=>hne z.1)]) (fun b _=>by rw [hu.cand,if_neg (fun z=>hne z.1)])
theorem Lg.othF (h:Lg C V qo e q e' hp hn x nwP bn bc s d) (hu:Fls C s t f) (hd:d < C.L) (hne:f≠d):Lg C V qo e q e' hp hn x nwP bn bc t d :=
  h.frame (fun b=>hu.now d b) (fun b hb=>by rw [hu.cand d b hd hb,if_neg hne])
theorem Lg.body (h:Lg C V qo e q e' hp hn x nwP i bc s d) (hsl:qo≠0→slq qo≠slq q) (hi:i < 3) (hu:Upd s t d (slq q + i) (bodyW e' i)):Lg C V qo e q e' hp hn x nwP (i + 1) bc t d := by
  have s2 := @sl_le q
  have hn1:∀ b,b≠slq q + i→now t d b=now s d b := fun b hb=>by rw [hu.now,if_neg (fun z=>hb z.2.symm)]
  have hc1:∀ b,b≠slq q + i→cand t d b=cand s d b := fun b hb=>by rw [hu.cand,if_neg (fun z=>hb z.2.symm)]
  refine ⟨fun c hc=>h.hd c (by rw [hc1 0 (by omega)] at hc; exact hc),by rw [hn1 0 (by omega)]; exact h.hn,fun z j hj c hc=>h.bd z j hj c (by rw [hc1 _ (sl_ne (hsl z) hj hi)] at hc; exact hc),fun o ho hx c hc=>h.dt o ho hx c (by rw [hc1 _ (by omega)] at hc; exact hc),fun z o ho=>by rw [hn1 _ (by omega)]; exact h.nw z o ho,fun j hj => ?_,fun z j hj c hc => ?_⟩
  · by_cases e:j=i
    · rw [hu.now,if_pos ⟨rfl,by rw [e]⟩,e]
    · rw [hn1 _ (by omega)]; exact h.nb j (by omega)
  · rw [hu.cand] at hc
    split at hc
    · rename_i z2
      have:i=j := by omega
      subst this
      rcases List.mem_append.1 hc with y | y
      · exact h.nc z i hj c y
      · exact List.mem_singleton.1 y
    · exact h.nc z j hj c hc
theorem Lg.flush (he:NC C s) (hd:d < C.L) (h:Lg C V qo e q e' hp hn x nwP bn bc s d) (hu:Fls C s t d) (hb:3≤bn∨bc):Lg C V qo e q e' (fun c=>hn c∧hp c) (fun c=>hn c∧hp c) (fun d o=>x d o ∧ ¬ nwP) nwP bn True t d := by
  have hO := @PC.hO C
  have hsz:C.sz=16 + C.O := rfl
  have s1 := @sl_le qo
  have s2 := @sl_le q
  have hc1:∀ b,b < C.sz → ∀ c,c ∈ cand t d b→c=now s d b := fun b hb c hc=>by rw [hu.cand d b hd hb,if_pos rfl,List.mem_singleton] at hc; exact hc
  have hnc:∀ b,b < C.sz→now s d b ∈ cand s d b := fun b hb=>he d b hd hb
  refine ⟨fun c hc => ?_,?_,fun z j hj c hc => ?_,fun o ho hx c hc => ?_,fun z o ho=>by rw [hu.now]; exact h.nw z o ho,fun j hj=>by rw [hu.now]; exact h.nb j hj,fun _ j hj c hc => ?_⟩
  · rw [hc1 0 (by omega) c hc]; exact ⟨h.hn,h.hd _ (hnc 0 (by omega))⟩
  · rw [hu.now]; exact ⟨h.hn,h.hd _ (hnc 0 (by omega))⟩
  · rw [hc1 _ (by omega) c hc]; exact h.bd z j hj _ (hnc _ (by omega))
  · rw [hc1 _ (by omega) c hc]
    by_cases z:nwP
    · exact h.nw z o ho
    · exact h.dt o ho (fun y=>hx ⟨y,z⟩) _ (hnc _ (by omega))
  · rw [hc1 _ (by omega) c hc]
    rcases hb with hb | hb
    · exact h.nb j (by omega)
    · exact h.nc hb j hj _ (hnc _ (by omega))
theorem Lg.head (h:Lg C V qo e q e' hp hn x nwP bn bc s d) (hu:Upd s t d 0 q):Lg C V qo e q e' (fun c=>hp c∨c=q) (· = q) x nwP bn bc t d := by
  have s1 := @sl_le qo
  have s2 := @sl_le q
  have hn1:∀ b,b≠0→now t d b=now s d b := fun b hb=>by rw [hu.now,if_neg (fun z=>hb z.2.symm)]
  have hc1:∀ b,b≠0→cand t d b=cand s d b := fun b hb=>by rw [hu.cand,if_neg (fun z=>hb z.2.symm)]
  refine ⟨fun c hc => ?_,by rw [hu.now,if_pos ⟨rfl,rfl⟩],fun z j hj c hc=>h.bd z j hj c (by rw [hc1 _ (by omega)] at hc; exact hc),fun o ho hx c hc=>h.dt o ho hx c (by rw [hc1 _ (by omega)] at hc; exact hc),fun z o ho=>by rw [hn1 _ (by omega)]; exact h.nw z o ho,fun j hj=>by rw [hn1 _ (by omega)]; exact h.nb j hj,fun z j hj c hc=>h.nc z j hj c (by rw [hc1 _ (by omega)] at hc; exact hc)⟩
  rw [hu.cand,if_pos ⟨rfl,rfl⟩] at hc
  rcases List.mem_append.1 hc with y | y
  · exact .inl (h.hd c y)
  · exact .inr (List.mem_singleton.1 y)
theorem Lg.word (hbn:bn≤3) (h:Lg C V qo e q e' hp hn x False bn bc s d) (hx:x d o) (hu:Upd s t d (16 + o) v):Lg C V qo e q e' hp hn x False bn bc t d := by
  have s1 := @sl_le qo
  have s2 := @sl_le q
  have hn1:∀ b,b≠16 + o→now t d b=now s d b := fun b hb=>by rw [hu.now,if_neg (fun z=>hb z.2.symm)]
  have hc1:∀ b,b≠16 + o→cand t d b=cand s d b := fun b hb=>by rw [hu.cand,if_neg (fun z=>hb z.2.symm)]
  refine ⟨fun c hc=>h.hd c (by rw [hc1 0 (by omega)] at hc; exact hc),by rw [hn1 0 (by omega)]; exact h.hn,fun z j hj c hc=>h.bd z j hj c (by rw [hc1 _ (by omega)] at hc; exact hc),fun b hb hxb c hc=>h.dt b hb hxb c ?_,fun z=>z.elim,fun j hj=>by rw [hn1 _ (by omega)]; exact h.nb j hj,fun z j hj c hc=>h.nc z j hj c (by rw [hc1 _ (by omega)] at hc; exact hc)⟩
  have:b≠o := fun z=>hxb (by rw [z]; exact hx)
  rw [hc1 _ (by omega)] at hc; exact hc
end
structure EV (C:PC) (V:Nat→Nat→UInt64) (e:PE):Prop where
  off:e.off < C.O
  leg:e.leg < C.L
  ne:e.leg≠C.par e.off
  w:V e.leg e.off=e.w
  p:V (C.par e.off) e.off=e.p
def Q0 (C:PC) (V:Nat→Nat→UInt64) (q:UInt64) (e:PE) (s:TS) (d:Nat):Prop := Lg C V q e q e (· = q) (· = q) (fun d o=>q≠0∧exE C e d o) True 0 False s d
def Hf (C:PC) (V:Nat→Nat→UInt64) (q:UInt64) (e:PE) (q':UInt64) (e':PE) (s:TS) (d:Nat):Prop := Lg C V q e q' e' (fun c=>c=q∨c=q') (fun _=>True) (fun _ _=>False) False 0 True s d
def Fu (C:PC) (V:Nat→Nat→UInt64) (q:UInt64) (e:PE) (s:TS) (d:Nat):Prop := Lg C V 0 e q e (· = q) (fun _=>True) (exE C e) False 0 True s d
structure JV (C:PC) (V:Nat→Nat→UInt64) (q:UInt64) (e:PE):Prop where
  even:∀ o,o < C.O→xr (fun d=>V d o) C.L=0
  ev:q≠0→EV C V e
  sm:q.toNat≤1000000000
structure Nx (C:PC) (V:Nat→Nat→UInt64) (q:UInt64) (V':Nat→Nat→UInt64) (q':UInt64) (e':PE):Prop where
  q:q' = q + 1
  ev:EV C V' e'
  old:∀ d o, ¬ exE C e' d o→V' d o=V d o
  even:∀ o,o < C.O→xr (fun d=>V' d o) C.L=0
section
variable {C:PC} {V V':Nat→Nat→UInt64} {st:Option Nat} {qo q q':UInt64} {e e':PE} {hp hn hp' hn':UInt64→Prop} {x x':Nat→Nat→Prop} {nwP nwP' bc bc':Prop} {bn bn' k i d f o a:Nat} {s t:TS} {v w:UInt64} {p:Bool}
theorem zgr (h:q.toNat≤1000000000):(q + 1).toNat=q.toNat + 1 := by
  rw [UInt64.toNat_add]
  have:(1:UInt64).toNat=1 := rfl
  rw [this,Nat.mod_eq_of_lt (by omega)]
theorem seq_ne (h:q.toNat≤1000000000):q + 1≠0 := fun z=>by
  have := zgr h
  rw [z] at this
  have e0:(0:UInt64).toNat=0 := rfl
  omega
theorem seq_sl (h:q.toNat≤1000000000):slq q≠slq (q + 1) := by
  unfold slq
  rw [zgr h]
  omega
theorem Nx.ne (h:Nx C V q V' q' e') (hs:q.toNat≤1000000000):q' ≠ 0 := by rw [h.q]; exact seq_ne hs
theorem Nx.jv (h:Nx C V q V' q' e') (hs:q.toNat≤999999999):JV C V' q' e' := ⟨h.even,fun _=>h.ev,by rw [h.q,zgr (by omega)]; omega⟩
theorem Lg.reV (h:Lg C V qo e q e' hp hn x nwP bn bc s d) (hx:∀ o, ¬ exE C e' d o → ¬ x d o) (hV:∀ o, ¬ exE C e' d o→V' d o=V d o):Lg C V' 0 e' q e' hp hn (exE C e') False bn bc s d :=
  ⟨h.hd,h.hn,fun z=>absurd rfl z,fun o ho hne c hc=>by rw [hV o hne]; exact h.dt o ho (hx o hne) c hc,fun z=>z.elim,h.nb,h.nc⟩
theorem Q0.start (h:Q0 C V q e s d):Lg C V q e q' e' (· = q) (· = q) (fun d o=>q≠0∧exE C e d o) True 0 False s d :=
  ⟨h.hd,h.hn,h.bd,h.dt,h.nw,fun i hi=>absurd hi (by omega),fun z=>z.elim⟩
theorem Q0.back (h:Lg C V q e q' e' (· = q) (· = q) (fun d o=>q≠0∧exE C e d o) True 0 False s d):Q0 C V q e s d :=
  ⟨h.hd,h.hn,h.bd,h.dt,h.nw,fun i hi=>absurd hi (by omega),fun z=>z.elim⟩
theorem Fu.done (he:NC C s) (hd:d < C.L) (hq:q≠0) (h:Lg C V 0 e q e (· = q) (· = q) (exE C e) False 0 True s d) (hn:∀ o,exE C e d o→now s d (16 + o)=V d o):Q0 C V q e s d := by
  have hsz:C.sz=16 + C.O := rfl
  refine ⟨h.hd,h.hn,fun _=>h.nc trivial,fun o ho hx=>h.dt o ho (fun z=>hx ⟨hq,z⟩),fun _ o ho => ?_,fun i hi=>absurd hi (by omega),fun z=>z.elim⟩
  by_cases z:exE C e d o
  · exact hn o z
  · exact h.dt o ho z _ (he d _ hd (by omega))
end
def Ls (C:PC) (st:Option Nat) (P:Nat→Prop):Prop := ∀ d,d < C.L→st≠some d→P d
theorem Ls.imp {C:PC} {st:Option Nat} {P Q:Nat→Prop} (h:Ls C st P) (hi:∀ d,d < C.L→st≠some d→P d→Q d):Ls C st Q := fun d hd hs=>hi d hd hs (h d hd hs)
def Pe (C:PC) (st:Option Nat) (V:Nat→Nat→UInt64) (q:UInt64) (e:PE) (V':Nat→Nat→UInt64) (q':UInt64) (e':PE) (s:TS):Prop := (Ls C st fun d=>Hf C V q e q' e' s d)∨Ls C st fun d=>Fu C V' q' e' s d
def Qs (C:PC) (st:Option Nat) (V:Nat→Nat→UInt64) (q:UInt64) (e:PE) (s:TS):Prop := Ls C st fun d=>Q0 C V q e s d
section
variable {C:PC} {V V':Nat→Nat→UInt64} {q q':UInt64} {e e':PE} {s t:TS} {a i o:Nat} {w:UInt64}
def wrE (C:PC) (V:Nat→Nat→UInt64) (a:Nat) (w:UInt64):PE := ⟨C.off a,C.leg a,w,V (C.leg a) (C.off a) ^^^ w ^^^ V (C.par (C.off a)) (C.off a)⟩
def wrV (C:PC) (V:Nat→Nat→UInt64) (a:Nat) (w:UInt64):Nat→Nat→UInt64 := fun d o=>if o=C.off a then (if d=C.par o then V (C.leg a) o ^^^ w ^^^ V d o else if d=C.leg a then w else V d o) else V d o
theorem wr_nx (ha:a < C.D) (hj:JV C V q e):Nx C V q (wrV C V a w) (q + 1) (wrE C V a w) := by
  obtain ⟨p1,p2,p3, -⟩ := PC.plc ha
  have p4 := PC.parL p2
  refine ⟨rfl,⟨p2,p1,p3,?_,?_⟩,fun d o hne => ?_,fun o ho => ?_⟩
  · show wrV C V a w (C.leg a) (C.off a)=w
    unfold wrV; rw [if_pos rfl,if_neg p3,if_pos rfl]
  · show wrV C V a w (C.par (C.off a)) (C.off a)=_
    unfold wrV; rw [if_pos rfl,if_pos rfl]; rfl
  · unfold wrV
    by_cases z:o=C.off a
    · subst z
      rw [if_pos rfl,if_neg (show ¬ d=C.par (C.off a) from fun y=>hne ⟨rfl,.inr y⟩),if_neg (show ¬ d=C.leg a from fun y=>hne ⟨rfl,.inl y⟩)]
    · rw [if_neg z]
  · by_cases z:o=C.off a
    · subst z
      have e1:(fun d=>wrV C V a w d (C.off a))=upd (upd (fun d=>V d (C.off a)) (C.leg a) w) (C.par (C.off a)) (V (C.leg a) (C.off a) ^^^ w ^^^ V (C.par (C.off a)) (C.off a)) := by
        funext d
        unfold wrV upd
        rw [if_pos rfl]
        by_cases y:d=C.par (C.off a)
        · rw [if_pos y,if_pos y,y]
        · rw [if_neg y,if_neg y]
      rw [e1,zrk p4,zrk p1,hj.even _ ho,show upd (fun d=>V d (C.off a)) (C.leg a) w (C.par (C.off a))=V (C.par (C.off a)) (C.off a) from if_neg (fun y=>p3 y.symm)]
      generalize V (C.leg a) (C.off a)=A
      generalize V (C.par (C.off a)) (C.off a)=B
      have:(0:UInt64) ^^^ A ^^^ w ^^^ B ^^^ (A ^^^ w ^^^ B)=(A ^^^ w ^^^ B) ^^^ (A ^^^ w ^^^ B) := by rw [UInt64.zero_xor]
      rw [this,UInt64.xor_self]
    · have e1:(fun d=>wrV C V a w d o)=fun d=>V d o := by funext d; unfold wrV; rw [if_neg z]
      rw [e1]; exact hj.even o ho
theorem zvj (ha:a < C.D) (hi:i < C.D):wrV C V a w (C.leg i) (C.off i)=if i=a then w else V (C.leg i) (C.off i) := by
  obtain ⟨p1,p2,p3, -⟩ := PC.plc ha
  obtain ⟨q1,q2,q3, -⟩ := PC.plc hi
  unfold wrV
  by_cases z:i=a
  · subst z
    rw [if_pos rfl,if_neg q3,if_pos rfl,if_pos rfl]
  · rw [if_neg z]
    by_cases y:C.off i=C.off a
    · rw [if_pos y,if_neg q3,if_neg (fun u=>z (PC.inj hi ha u y))]
    · rw [if_neg y]
end
section
variable {C:PC} {V V':Nat→Nat→UInt64} {st:Option Nat} {q q':UInt64} {e e':PE} {s t:TS}
structure Rc (C:PC) (st:Option Nat) (V:Nat→Nat→UInt64) (q:UInt64) (e:PE) (s:TS):Prop where
  lo:Ls C st fun d=>(now s d 0).toNat≤q.toNat
  bd:Ls C st fun d=>now s d 0=q→q≠0 → ∀ i,i < 3→now s d (slq q + i)=bodyW e i
  dt:Ls C st fun d => ∀ o,o < C.O → ¬ (q≠0∧exE C e d o)→now s d (16 + o)=V d o
  ex:∃ d,d < C.L∧st≠some d∧now s d 0=q
  sg:∀ d b,cand s d b=[now s d b]
theorem Ls.some (hst:Option Nat):∃ d,d < C.L∧hst≠some d := by
  have hL := C.hL
  by_cases h:hst=Option.some 0
  · exact ⟨1,by omega,by rw [h]; simp⟩
  · exact ⟨0,by omega,h⟩
theorem Rc.of_Q (hA:Qs C st V q e s) (hr:Restarted C s t):Rc C st V q e t := by
  have hO := @PC.hO C
  have hsz:C.sz=16 + C.O := rfl
  have s1 := @sl_le q
  have hn:∀ d b,d < C.L→b < C.sz→now t d b ∈ cand s d b := fun d b hd hb=>hr.now d b hd hb
  have h0:∀ d,d < C.L→st≠some d→now t d 0=q := fun d hd hds=>(hA d hd hds).hd _ (hn d 0 hd (by omega))
  obtain ⟨d,hd,hds⟩ := Ls.some (C:=C) st
  exact ⟨fun d hd hds=>by show (now t d 0).toNat≤q.toNat; rw [h0 d hd hds]; exact Nat.le_refl _,fun d hd hds _ hq i hi=>(hA d hd hds).bd hq i hi _ (hn d _ hd (by omega)),fun d hd hds o ho hx=>(hA d hd hds).dt o ho hx _ (hn d _ hd (by omega)),⟨d,hd,hds,h0 d hd hds⟩,hr.cand⟩
theorem Rc.of_Fu (hq:q≠0) (hA:Ls C st fun d=>Fu C V q e s d) (hr:Restarted C s t):Rc C st V q e t := by
  have hO := @PC.hO C
  have hsz:C.sz=16 + C.O := rfl
  have s1 := @sl_le q
  have hn:∀ d b,d < C.L→b < C.sz→now t d b ∈ cand s d b := fun d b hd hb=>hr.now d b hd hb
  have h0:∀ d,d < C.L→st≠some d→now t d 0=q := fun d hd hds=>(hA d hd hds).hd _ (hn d 0 hd (by omega))
  obtain ⟨d,hd,hds⟩ := Ls.some (C:=C) st
  exact ⟨fun d hd hds=>by show (now t d 0).toNat≤q.toNat; rw [h0 d hd hds]; exact Nat.le_refl _,fun d hd hds _ _ i hi=>(hA d hd hds).nc trivial i hi _ (hn d _ hd (by omega)),fun d hd hds o ho hx=>(hA d hd hds).dt o ho (fun z=>hx ⟨hq,z⟩) _ (hn d _ hd (by omega)),⟨d,hd,hds,h0 d hd hds⟩,hr.cand⟩
theorem Rc.of_Hf (hj:JV C V q e) (hx:Nx C V q V' q' e') (hA:Ls C st fun d=>Hf C V q e q' e' s d) (hr:Restarted C s t):Rc C st V q e t∨Rc C st V' q' e' t := by
  have hO := @PC.hO C
  have hsz:C.sz=16 + C.O := rfl
  have s1 := @sl_le q
  have s2 := @sl_le q'
  have hq := zgr hj.sm
  have hn:∀ d b,d < C.L→b < C.sz→now t d b ∈ cand s d b := fun d b hd hb=>hr.now d b hd hb
  have h0:∀ d,d < C.L→st≠some d→now t d 0=q∨now t d 0=q' := fun d hd hds=>(hA d hd hds).hd _ (hn d 0 hd (by omega))
  have hdt:∀ d,d < C.L→st≠some d → ∀ o,o < C.O→now t d (16 + o)=V d o := fun d hd hds o ho=>(hA d hd hds).dt o ho (fun z=>z) _ (hn d _ hd (by omega))
  by_cases hz:∃ d,d < C.L∧st≠some d∧now t d 0=q'
  · refine .inr ⟨fun d hd hds => ?_,fun d hd hds _ _ i hi=>(hA d hd hds).nc trivial i hi _ (hn d _ hd (by omega)),fun d hd hds o ho hne => ?_,hz,hr.cand⟩
    · rcases h0 d hd hds with z | z
      · rw [z,hx.q,hq]; omega
      · rw [z]; exact Nat.le_refl _
    · rw [hdt d hd hds o ho]; exact (hx.old d o (fun y=>hne ⟨hx.ne hj.sm,y⟩)).symm
  · have h1:∀ d,d < C.L→st≠some d→now t d 0=q := fun d hd hds=>(h0 d hd hds).elim id (fun y=>absurd ⟨d,hd,hds,y⟩ hz)
    obtain ⟨d,hd,hds⟩ := Ls.some (C:=C) st
    exact .inl ⟨fun d hd hds=>by show (now t d 0).toNat≤q.toNat; rw [h1 d hd hds]; exact Nat.le_refl _,fun d hd hds _ hq i hi=>(hA d hd hds).bd hq i hi _ (hn d _ hd (by omega)),fun d hd hds o ho _=>hdt d hd hds o ho,⟨d,hd,hds,h1 d hd hds⟩,hr.cand⟩
end
end Go.Proofs.Ts
namespace Go.VG
open Go.BigFrame
abbrev ptr (b off:Nat):Value := .pointer (some ⟨b,off,none⟩)
def blk (b:Nat) (T:TypeId) (cs:List Value):HP := pt b (.cells cs.toArray T (0,0))
section
variable {P:Program} {n:Env} {W:World} {s:Slots} {H:List HP} {K:Slots→List HP→Prop} {d:Nat} {dst:Option Tmp} {ty:TypeId} {pos:String} {after:Array Edge} {g:Option (Nat × Bool)}
def PJ (P:Program) (n:Env) (o:Oper) (s:Slots) (v:Value):Prop := ∀ a w,Fits n s a→(execOp a.eval o).run P w = .ok (.value v) w
def VJ (P:Program) (n:Env) (W:World) (o:Oper) (s:Slots) (H:List HP) (v:Value):Prop := ∀ a w,Fits n s a→St W w H→(execOp a.eval o).run P w = .ok (.value v) w
theorem OJ_V {op:Op} {v:Value} (h:VJ P n W ⟨some d,op,ty,pos,after,g⟩ s H v) (hd:Nat.blt d n.n=true) (hk:K ((d,v)::s) H):OJ P n W ⟨some d,op,ty,pos,after,g⟩ s H K := by
  intro a w hf hs next Q hn
  refine ⟨?_,zjl (h a w hf hs) (fun _ e=>by cases e)⟩
  unfold Oper.wp
  rw [h a w hf hs]
  exact hn _ _ _ _ hk (hf.put hd v) hs
theorem OJ_P {op:Op} {v:Value} (h:PJ P n ⟨some d,op,ty,pos,after,g⟩ s v) (hd:Nat.blt d n.n=true) (hk:K ((d,v)::s) H):OJ P n W ⟨some d,op,ty,pos,after,g⟩ s H K :=
  OJ_V (fun a w hf _=>h a w hf) hd hk
theorem zge {op:Op} (hrun:∀ a w,Fits n s a→St W w H → ∃ v w' H',(execOp a.eval ⟨some d,op,ty,pos,after,g⟩).run P w = .ok (.value v) w' ∧ St W w' H' ∧ K ((d,v)::s) H')
    (hd:Nat.blt d n.n=true):OJ P n W ⟨some d,op,ty,pos,after,g⟩ s H K := by
  intro a w hf hs next Q hn
  obtain ⟨v,w',H',hr,hs',hk⟩ := hrun a w hf hs
  refine ⟨?_,zjl hr (fun _ e=>by cases e)⟩
  unfold Oper.wp
  rw [hr]
  exact hn _ _ _ _ hk (hf.put hd v) hs'
theorem OJ_do {op:Op} (hrun:∀ a w,Fits n s a→St W w H → ∃ w' H',((execOp a.eval ⟨none,op,ty,pos,after,g⟩).run P w = .ok .skip w' ∨ ∃ v,(execOp a.eval ⟨none,op,ty,pos,after,g⟩).run P w = .ok (.value v) w')∧St W w' H' ∧ K s H') :
    OJ P n W ⟨none,op,ty,pos,after,g⟩ s H K := by
  intro a w hf hs next Q hn
  obtain ⟨w',H',hr,hs',hk⟩ := hrun a w hf hs
  rcases hr with hr | ⟨v,hr⟩
  all_goals refine ⟨?_,zjl hr (fun _ e=>by cases e)⟩; unfold Oper.wp
  · rw [hr]; exact hn _ _ _ _ hk (hf.put_none undef) hs'
  · rw [hr]; exact hn _ _ _ _ hk (hf.put_none v) hs'
theorem zae {x:Operand} {v:Value} (hx:ev s x=some v):PJ P n ⟨dst,.move x,ty,pos,after,g⟩ s (v) :=
  (fun a w hf=>by simp [execOp,hf.eval hx])
theorem za9 {x:Operand} {v:Value} (hx:ev s x=some v):PJ P n ⟨dst,.assign x,ty,pos,after,g⟩ s (v) :=
  (fun a w hf=>by simp [execOp,hf.eval hx])
theorem zbe {c x y:Operand} {t:Bool} {v:Value} (hc:ev s c=some (.bool t)) (ht:t=true) (hx:ev s x=some v):PJ P n ⟨dst,.pick c x y,ty,pos,after,g⟩ s (v) :=
  (fun a w hf=>by subst ht; simp [execOp,hf.eval hx,hf.eval hc,asBool])
theorem za2 {c x y:Operand} {t:Bool} {v:Value} (hc:ev s c=some (.bool t)) (ht:t=false) (hx:ev s y=some v):PJ P n ⟨dst,.pick c x y,ty,pos,after,g⟩ s (v) :=
  (fun a w hf=>by subst ht; simp [execOp,hf.eval hx,hf.eval hc,asBool])
theorem zcx {x:Int} (h1 : -9223372036854775808≤x) (h2:x≤9223372036854775807):IntKind.i64.wrap x=x := IntWalk.i64_in x ⟨h1,h2⟩
section ints
variable {x y:Operand} {t t':TypeId} {a b:Int}
theorem P_add (hx:ev s x=some (.int .i64 a)) (hy:ev s y=some (.int .i64 b)) (hr : -9223372036854775808≤a + b∧a + b≤9223372036854775807):PJ P n ⟨dst,.binOp .add t x y t',ty,pos,after,g⟩ s (.int .i64 (a + b)) :=
  (fun q w hf=>by simp [execOp,hf.eval hx,hf.eval hy,eqGuard,binOp,Op.intArith,zcx hr.1 hr.2])
theorem P_sub (hx:ev s x=some (.int .i64 a)) (hy:ev s y=some (.int .i64 b)) (hr : -9223372036854775808≤a - b∧a - b≤9223372036854775807):PJ P n ⟨dst,.binOp .sub t x y t',ty,pos,after,g⟩ s (.int .i64 (a - b)) :=
  (fun q w hf=>by simp [execOp,hf.eval hx,hf.eval hy,eqGuard,binOp,Op.intArith,zcx hr.1 hr.2])
theorem P_mul (hx:ev s x=some (.int .i64 a)) (hy:ev s y=some (.int .i64 b)) (hr : -9223372036854775808≤a * b∧a * b≤9223372036854775807):PJ P n ⟨dst,.binOp .mul t x y t',ty,pos,after,g⟩ s (.int .i64 (a * b)) :=
  (fun q w hf=>by simp [execOp,hf.eval hx,hf.eval hy,eqGuard,binOp,Op.intArith,zcx hr.1 hr.2])
theorem zvk {k:IntKind} (hx:ev s x=some (.int k a)) (hy:ev s y=some (.int k b)):PJ P n ⟨dst,.binOp .add t x y t',ty,pos,after,g⟩ s (.int k (k.wrap (a + b))) :=
  (fun q w hf=>by simp [execOp,hf.eval hx,hf.eval hy,eqGuard,binOp,Op.intArith])
theorem zvl {k:IntKind} (hx:ev s x=some (.int k a)) (hy:ev s y=some (.int k b)):PJ P n ⟨dst,.binOp .sub t x y t',ty,pos,after,g⟩ s (.int k (k.wrap (a - b))) :=
  (fun q w hf=>by simp [execOp,hf.eval hx,hf.eval hy,eqGuard,binOp,Op.intArith])
theorem P_mulW {k:IntKind} (hx:ev s x=some (.int k a)) (hy:ev s y=some (.int k b)):PJ P n ⟨dst,.binOp .mul t x y t',ty,pos,after,g⟩ s (.int k (k.wrap (a * b))) :=
  (fun q w hf=>by simp [execOp,hf.eval hx,hf.eval hy,eqGuard,binOp,Op.intArith])
theorem P_quo (hx:ev s x=some (.int .i64 a)) (hy:ev s y=some (.int .i64 b)) (hr:(0≤a∧a≤9223372036854775807)∧0 < b):PJ P n ⟨dst,.binOp .quo t x y t',ty,pos,after,g⟩ s (.int .i64 (a / b)) :=
  (fun q w hf=>by
    obtain ⟨⟨h1,h2⟩,h3⟩ := hr
    have h4:a / b≤9223372036854775807 := by
      have := Int.ediv_le_self b h1; omega
    have h5:0≤a / b := Int.ediv_nonneg h1 (by omega)
    have hb:¬ b=0 := by omega
    simp [execOp,hf.eval hx,hf.eval hy,eqGuard,binOp,Op.intDiv,hb,Int.tdiv_eq_ediv_of_nonneg h1,zcx (show -9223372036854775808≤a / b by omega) h4])
theorem P_rem {k:IntKind} (hx:ev s x=some (.int k a)) (hy:ev s y=some (.int k b)) (hr:0≤a∧0 < b):PJ P n ⟨dst,.binOp .rem t x y t',ty,pos,after,g⟩ s (.int k (a % b)) :=
  (fun q w hf=>by
    obtain ⟨h1,h3⟩ := hr
    have hb:¬ b=0 := by omega
    simp [execOp,hf.eval hx,hf.eval hy,eqGuard,binOp,Op.intDiv,hb,Int.tmod_eq_emod_of_nonneg h1])
theorem zg3 {k:IntKind} (hx:ev s x=some (.int k a)) (hy:ev s y=some (.int k b)) (hb:¬ b=0):PJ P n ⟨dst,.binOp .rem t x y t',ty,pos,after,g⟩ s (.int k (a.tmod b)) :=
  (fun q w hf=>by simp [execOp,hf.eval hx,hf.eval hy,eqGuard,binOp,Op.intDiv,hb])
theorem zjr {k:IntKind} (hx:ev s x=some (.int k a)) (hy:ev s y=some (.int k b)) (hb:¬ b=0):PJ P n ⟨dst,.binOp .quo t x y t',ty,pos,after,g⟩ s (.int k (k.wrap (a.tdiv b))) :=
  (fun q w hf=>by simp [execOp,hf.eval hx,hf.eval hy,eqGuard,binOp,Op.intDiv,hb])
variable {k:IntKind}
theorem P_lss (hx:ev s x=some (.int k a)) (hy:ev s y=some (.int k b)):PJ P n ⟨dst,.binOp .lss t x y t',ty,pos,after,g⟩ s (.bool (decide (a < b))) :=
  (fun q w hf=>by simp [execOp,hf.eval hx,hf.eval hy,eqGuard,binOp,Op.intCmp])
theorem P_leq (hx:ev s x=some (.int k a)) (hy:ev s y=some (.int k b)):PJ P n ⟨dst,.binOp .leq t x y t',ty,pos,after,g⟩ s (.bool (decide (a≤b))) :=
  (fun q w hf=>by simp [execOp,hf.eval hx,hf.eval hy,eqGuard,binOp,Op.intCmp])
theorem P_gtr (hx:ev s x=some (.int k a)) (hy:ev s y=some (.int k b)):PJ P n ⟨dst,.binOp .gtr t x y t',ty,pos,after,g⟩ s (.bool (decide (b < a))) :=
  (fun q w hf=>by simp [execOp,hf.eval hx,hf.eval hy,eqGuard,binOp,Op.intCmp])
theorem P_geq (hx:ev s x=some (.int k a)) (hy:ev s y=some (.int k b)):PJ P n ⟨dst,.binOp .geq t x y t',ty,pos,after,g⟩ s (.bool (decide (b≤a))) :=
  (fun q w hf=>by simp [execOp,hf.eval hx,hf.eval hy,eqGuard,binOp,Op.intCmp])
theorem P_eql (hx:ev s x=some (.int k a)) (hy:ev s y=some (.int k b)):PJ P n ⟨dst,.binOp .eql t x y t',ty,pos,after,g⟩ s (.bool (decide (a=b))) :=
  (fun q w hf=>by
    simp only [execOp,hf.eval hx,hf.eval hy,eqGuard,binOp,Op.intCmp]
    simp
    rw [Bool.eq_iff_iff]; simp)
theorem P_neq (hx:ev s x=some (.int k a)) (hy:ev s y=some (.int k b)):PJ P n ⟨dst,.binOp .neq t x y t',ty,pos,after,g⟩ s (.bool (decide (a≠b))) :=
  (fun q w hf=>by
    simp only [execOp,hf.eval hx,hf.eval hy,eqGuard,binOp,Op.intCmp]
    simp
    rw [Bool.eq_iff_iff]; simp)
theorem zoi {op:BinOp} {r:Int} (hx:ev s x=some (.int k a)) (hy:ev s y=some (.int k b))
    (hop:op = .and∨op = .or∨op = .xor∨op = .andNot) (hr:∀ w,(Op.intBits op k a b).run P w = .ok (.int k r) w):PJ P n ⟨dst,.binOp op t x y t',ty,pos,after,g⟩ s (.int k r) :=
  (fun q w hf=>by rcases hop with rfl | rfl | rfl | rfl <;> simp [execOp,hf.eval hx,hf.eval hy,eqGuard,binOp,hr])
theorem zll {k':IntKind} (hx:ev s x=some (.int k' a)) (hu:∀ w,(underlying t).run P w = .ok (.int k') w) (hu':∀ w,(underlying t').run P w = .ok (.int k) w):PJ P n ⟨dst,.convert t t' x,ty,pos,after,g⟩ s (.int k (k.wrap a)) :=
  (fun q w hf=>by simp [execOp,hf.eval hx,convert,hu,hu',Conv.intToInt])
theorem zif {k':IntKind} (hx:ev s x=some (.int k' a)) (hu:∀ w,(underlying t).run P w = .ok (.int k') w) (hu':∀ w,(underlying t').run P w = .ok (.int k) w)
    (hw:k.wrap a=a):PJ P n ⟨dst,.convert t t' x,ty,pos,after,g⟩ s (.int k a) :=
  (fun q w hf=>by simp [execOp,hf.eval hx,convert,hu,hu',Conv.intToInt,hw])
theorem P_neg (hx:ev s x=some (.int .i64 a)) (hr : -9223372036854775808≤0 - a∧0 - a≤9223372036854775807):PJ P n ⟨dst,.unOp .neg t x,ty,pos,after,g⟩ s (.int .i64 (0 - a)) :=
  (fun q w hf=>by
    have := zcx hr.1 hr.2
    simp only [execOp,hf.eval hx,Op.unary,Op.intArith]
    rw [this]; rfl)
end ints
theorem P_not {x:Operand} {t:TypeId} {b:Bool} (hx:ev s x=some (.bool b)):PJ P n ⟨dst,.unOp .not t x,ty,pos,after,g⟩ s (.bool (!b)) :=
  (fun q w hf=>by simp [execOp,hf.eval hx,Op.unary])
theorem P_min {x y:Operand} {ats:Array TypeId} {k:IntKind} {a b:Int} (hx:ev s x=some (.int k a)) (hy:ev s y=some (.int k b)) :
    PJ P n ⟨dst,.call { callee := .builtin .min,args := #[x,y],argTypes := ats },ty,pos,after,g⟩ s (.int k (min a b)) :=
  (fun q w hf=>by
    have e:(if b < a then b else a)=min a b := by rw [Int.min_def]; split <;> split <;> omega
    simp [execOp,resolve,invoke,builtin,Builtin.min_,Builtin.min2,hf.eval hx,hf.eval hy,e])
theorem P_max {x y:Operand} {ats:Array TypeId} {k:IntKind} {a b:Int} (hx:ev s x=some (.int k a)) (hy:ev s y=some (.int k b)) :
    PJ P n ⟨dst,.call { callee := .builtin .max,args := #[x,y],argTypes := ats },ty,pos,after,g⟩ s (.int k (max a b)) :=
  (fun q w hf=>by
    have e:(if a < b then b else a)=max a b := by rw [Int.max_def]; split <;> split <;> omega
    simp [execOp,resolve,invoke,builtin,Builtin.max_,Builtin.max2,hf.eval hx,hf.eval hy,e])
theorem zaj {x:Operand} {i:Nat} {vs:Array Value} {v:Value} (hx:ev s x=some (.tuple vs)) (hv:vs[i]? = some v):PJ P n ⟨dst,.extract x i,ty,pos,after,g⟩ s (v) :=
  (fun q w hf=>by simp [execOp,hf.eval hx,Instr.extract,hv])
theorem zad {x:Operand} {b off:Nat} (hx:ev s x=some (ptr b off)):PJ P n ⟨dst,.nilCheck x,ty,pos,after,g⟩ s (ptr b off) :=
  (fun q w hf=>by simp [execOp,hf.eval hx,ptr])
theorem zbb {fn:Fn} {first captured:List Operand} {vs cs:List Value} (hv:evs s first=some vs) (hc:evs s captured=some cs):PJ P n ⟨dst,.makeFunc fn first.toArray captured.toArray,ty,pos,after,g⟩ s (.func fn vs.toArray cs.toArray) :=
  (fun q w hf=>by
    have h1 := hf.evals hv
    have h2 := hf.evals hc
    simp [execOp,Instr.makeFunc,h1,h2])
theorem zdu {x:Operand} {T:TypeId} {v:Value} {u:TypeDesc} (hx:ev s x=some v) (hu:∀ w,(underlying T).run P w = .ok u w) (hni:∀ ms,u ≠ .interface ms):PJ P n ⟨dst,.makeInterface T x,ty,pos,after,g⟩ s (.iface T v) :=
  (fun q w hf=>by
    simp only [execOp,Instr.makeInterface,Sem.run_bind,hu,Result.andThen_ok,hf.eval hx]
    cases u <;> first | exact absurd rfl (hni _) | rfl)
def zpj (P:Program) (T:TypeId) (f o:Nat):Prop :=
  ∃ fs fd sz,(∀ w,(underlying T).run P w = .ok (.struct fs) w)∧fs[f]? = some fd∧fd.offset=o∧(∀ w,(sizeOf fd.type).run P w = .ok sz w)∧Nat.blt 0 sz=true
theorem zcy (a:Addr) (o:Nat) (ha:a.spot=none):a.add o=⟨a.block,a.off + o,none⟩ := by
  unfold Addr.add
  split
  · rename_i h; subst h; cases a; simp_all
  · rfl
theorem znf {T:TypeId} {f o:Nat} {a:Addr} (hT:zpj P T f o) (ha:a.spot=none) (w:World) :
    (Instr.fieldAt T (.pointer (some a)) f).run P w = .ok (.pointer (some ⟨a.block,a.off + o,none⟩)) w := by
  obtain ⟨fs,fd,sz,hu,hfd,ho,hsz,hp⟩ := hT
  have hsz0:¬ sz=0 := by intro e; subst e; cases hp
  subst ho
  simp only [Instr.fieldAt,Sem.run_bind,hu,Result.andThen_ok,hfd,Instr.sureAddr,fieldPlace]
  simp [hsz,hsz0,zcy a _ ha]
theorem zaa {x:Operand} {T:TypeId} {f o b off:Nat} (hx:ev s x=some (ptr b off)) (hT:zpj P T f o):PJ P n ⟨dst,.fieldAddr T x f,ty,pos,after,g⟩ s (ptr b (off + o)) :=
  (fun q w hf=>by simp [execOp,hf.eval hx,znf hT])
theorem zac {x:Operand} {T E:TypeId} {b off:Nat} {cs:List Value} {C:HP→List HP} {v:Value} (hx:ev s x=some (ptr b off)) (hf':Foc H (blk b E cs) C) (hc:cs[off]? = some v)
    (hT:∀ w,(isAgg T).run P w = .ok false w):VJ P n W ⟨dst,.load T x,ty,pos,after,g⟩ s H (v) :=
  (fun q w hf hs=>by
    obtain ⟨F,hp,_⟩ := hf'.focus
    have hcell := (hs.perm hp).cell (i:=off)
    simp only [List.getElem?_toArray,hc] at hcell
    simp [execOp,hf.eval hx,Instr.loadAt,Instr.sureAddr,loadVar,hT,hcell])
theorem zic {w:World} {b off m:Nat} {T:TypeId} {fr:Nat × Nat} {c:Array Value} (hb:w.heap[b]? = some (.cells c T fr)) (hm:off + m≤c.size) :
    (loadCells ⟨b,off,none⟩ m).run P w = .ok ((c.toList.drop off).take m).toArray w := by
  have hlen:((c.toList.drop off).take m).length=m := by simp; omega
  have := run_loadCells_list (P:=P) w ⟨b,off,none⟩ ((c.toList.drop off).take m) (fun j v hj=>by
    rw [zcy _ _ rfl]
    have hlt:j < m := by
      rcases Nat.lt_or_ge j m with h | h
      · exact h
      · rw [List.getElem?_eq_none (by omega)] at hj; cases hj
    simp only [World.cell?,hb]
    simp only [List.getElem?_take,hlt,if_true,List.getElem?_drop] at hj
    simpa using hj)
  rwa [hlen] at this
theorem zbq {x:Operand} {T E:TypeId} {b off m:Nat} {cs:List Value} {C:HP→List HP} {vs:List Value} (hx:ev s x=some (ptr b off)) (hf':Foc H (blk b E cs) C)
    (hT:∀ w,(isAgg T).run P w = .ok true w) (hm:∀ w,(sizeOf T).run P w = .ok m w) (hb:Nat.ble (off + m) cs.length=true) (hc:(cs.drop off).take m=vs):VJ P n W ⟨dst,.load T x,ty,pos,after,g⟩ s H (.agg vs.toArray) :=
  (fun q w hf hs=>by
    obtain ⟨F,hp,_⟩ := hf'.focus
    have hl := zic (P:=P) (off:=off) (m:=m) (hs.perm hp).blk (by simpa using Nat.le_of_ble_eq_true hb)
    simp only [hc] at hl
    simp [execOp,hf.eval hx,Instr.loadAt,Instr.sureAddr,loadVar,hT,hm,hl])
theorem za5 {x y:Operand} {T E:TypeId} {b off:Nat} {cs:List Value} {C:HP→List HP} {v:Value} (hx:ev s x=some (ptr b off)) (hy:ev s y=some v) (hf':Foc H (blk b E cs) C)
    (hlt:Nat.blt off cs.length=true) (hv:v.oneCell' = true) (hT:∀ w,(sizeOf T).run P w = .ok 1 w) (hk:K s (C (blk b E (cs.set off v)))) :
    OJ P n W ⟨none,.store T x y,ty,pos,after,g⟩ s H K :=
  OJ_do (fun q w hf hs=>by
    obtain ⟨F,hp,hC⟩ := hf'.focus
    have hs1 := hs.perm hp
    have hlt':off < cs.length := by simpa using hlt
    have hcell := hs1.cell (i:=off)
    have hfr := hs1.frozen (i:=off)
    refine ⟨w.setCell ⟨b,off,none⟩ v,C (blk b E (cs.set off v)),.inl ?_,?_,hk⟩
    · have hcs:v.cells = #[v] := by cases v <;> first | rfl | cases hv
      simp only [execOp,hf.eval hx,hf.eval hy,Instr.storeAt,Instr.sureAddr,storeVar,ptr]
      simp only [Sem.run_bind,hT,hcs,Sem.run_pure,Result.andThen_ok]
      have hst := run_store P w ⟨b,off,none⟩ v .plain hv
      simp [storeCells,zcy,hst,hcell,List.getElem?_eq_getElem hlt',hfr]
    · have h3 := hs1.setCell (i:=off) (v:=v)
      rw [show cs.toArray.setIfInBounds off v=(cs.set off v).toArray by simp] at h3
      exact h3.perm (hC (blk b E (cs.set off v))).symm)
theorem St.setRow {w:World} {F:List HP} {b:Nat} {c c':Array Value} {T:TypeId} {fr:Nat × Nat} (h:St W w (pt b (.cells c T fr)::F)):St W (w.setRow b c') (pt b (.cells c' T fr)::F) := by
  have hb := h.blk
  have he:w.setRow b c' = { w with heap := w.heap.setIfInBounds b (.cells c' T fr) } := by
    unfold World.setRow
    congr 1
    apply Array.ext_getElem?
    intro k
    rw [Array.getElem?_modify,Array.getElem?_setIfInBounds]
    have hlt:b < w.heap.size := by
      rcases Nat.lt_or_ge b w.heap.size with h' | h'
      · exact h'
      · simp [Array.getElem?_eq_none h'] at hb
    by_cases hk:b=k
    · subst hk; rw [if_pos rfl,if_pos rfl,if_pos hlt,hb]; rfl
    · simp [hk]
  rw [he]
  exact h.setObj
def patch (cs:List Value) (off:Nat) (vs:List Value):List Value := cs.take off ++ vs ++ cs.drop (off + vs.length)
def zlm:List Value→Bool
  | []=>true
  | v::r=>v.oneCell' && zlm r
theorem zhx:∀ {vs:List Value},zlm vs=true → ∀ v ∈ vs,v.oneCell' = true
  | [],_,v,h=>by cases h
  | u::r,ha,v,h=>by
    simp only [zlm,Bool.and_eq_true] at ha
    rcases List.mem_cons.1 h with rfl | h
    · exact ha.1
    · exact zhx ha.2 v h
theorem zbo {x y:Operand} {T E:TypeId} {b off m:Nat} {cs:List Value} {C:HP→List HP} {vs:List Value} (hx:ev s x=some (ptr b off)) (hy:ev s y=some (.agg vs.toArray)) (hf':Foc H (blk b E cs) C)
    (hm:∀ w,(sizeOf T).run P w = .ok m w) (hlen:Nat.beq vs.length m=true) (hlt:Nat.ble (off + m) cs.length=true) (hv:zlm vs=true) (hk:K s (C (blk b E (patch cs off vs)))) :
    OJ P n W ⟨none,.store T x y,ty,pos,after,g⟩ s H K :=
  OJ_do (fun q w hf hs=>by
    obtain ⟨F,hp,hC⟩ := hf'.focus
    have hs1 := hs.perm hp
    have hlen':vs.length=m := Nat.eq_of_beq_eq_true hlen
    have hlt':off + m≤cs.length := Nat.le_of_ble_eq_true hlt
    have hst := run_storeCells_at P b off E vs 0 cs.toArray w hs1.blk (by simp; omega) (zhx hv)
    simp only [Nat.add_zero] at hst
    refine ⟨_,C (blk b E (patch cs off vs)),.inl ?_,(hs1.setRow (c' := (patch cs off vs).toArray)).perm (hC (blk b E (patch cs off vs))).symm,hk⟩
    simp only [execOp,hf.eval hx,hf.eval hy,Instr.storeAt,Instr.sureAddr,storeVar,ptr]
    simp [hm,Value.cells,hlen',hst,patch])
theorem zbi {T:TypeId} {z:Value} {zs:List Value} (hz:∀ w,(zeroValue T).run P w = .ok z w) (hc:z.cells=zs.toArray) (hd:Nat.blt d n.n=true)
    (hk:∀ b,K ((d,ptr b 0)::s) (blk b T zs::H)):OJ P n W ⟨some d,.alloc T,ty,pos,after,g⟩ s H K :=
  zge (fun q w hf hs=>⟨ptr w.heap.size 0,w.alloc (.cells zs.toArray T),_,by simp [execOp,Instr.alloc,hz,newVar,newRow,hc],hs.alloc _,hk w.heap.size⟩) hd
theorem O_box {x:Operand} {T:TypeId} {v:Value} {vs:List Value} (hx:ev s x=some v) (hc:v.cells=vs.toArray) (hd:Nat.blt d n.n=true)
    (hk:∀ b,K ((d,ptr b 0)::s) (blk b T vs::H)):OJ P n W ⟨some d,.box T x,ty,pos,after,g⟩ s H K :=
  zge (fun q w hf hs=>⟨ptr w.heap.size 0,w.alloc (.cells vs.toArray T),_,by simp [execOp,Instr.box,newVar,newRow,hc,hf.eval hx],hs.alloc _,hk w.heap.size⟩) hd
def evps (s:Slots):List (Nat × Operand)→Option (List (Nat × Value))
  | []=>some []
  | (i,x)::r=>match ev s x,evps s r with
    | some v,some vs=>some ((i,v)::vs)
    | _,_=>none
theorem Fits.evalps {a:Act} (h:Fits n s a):∀ {xs:List (Nat × Operand)} {vs:List (Nat × Value)},evps s xs=some vs→(xs.map fun (i,x)=>(i,a.eval x))=vs
  | [],vs,he=>by simp [evps] at he; simp [he]
  | (i,x)::r,vs,he=>by
    simp only [evps] at he
    split at he
    · rename_i v vs' h1 h2
      simp at he; subst he
      simp [h.eval h1,Fits.evalps h h2]
    · simp at he
theorem zbk {T:TypeId} {parts:List (Nat × Operand)} {vs:List (Nat × Value)} {r:Value} (hv:evps s parts=some vs) (hb:∀ w,(Instr.build T vs.toArray).run P w = .ok r w):PJ P n ⟨dst,.build T parts.toArray,ty,pos,after,g⟩ s (r) :=
  (fun q w hf=>by
    have h1 := hf.evalps hv
    have h2:(parts.toArray.map fun (i,x)=>(i,q.eval x))=vs.toArray := by rw [← h1]; simp
    simp only [execOp]
    rw [h2]
    simp [hb])
def zbg (P:Program) (T:TypeId) (len:Nat) (vs:List (Nat × Value)) (E:TypeId) (cs:List Value):Prop :=
  ∀ w,(Instr.buildSlice T len vs.toArray).run P w = .ok (.slice (some ⟨w.heap.size,0,none⟩) len len) (w.alloc (.cells cs.toArray E))
theorem za4 {T E:TypeId} {len:Nat} {parts:List (Nat × Operand)} {vs:List (Nat × Value)} {cs:List Value} (hv:evps s parts=some vs) (hb:zbg P T len vs E cs) (hd:Nat.blt d n.n=true)
    (hk:∀ b,K ((d,.slice (some ⟨b,0,none⟩) len len)::s) (blk b E cs::H)):OJ P n W ⟨some d,.buildSlice T len parts.toArray,ty,pos,after,g⟩ s H K :=
  zge (fun q w hf hs=>by
    have h1 := hf.evalps hv
    have h2:(parts.toArray.map fun (i,x)=>(i,q.eval x))=vs.toArray := by rw [← h1]; simp
    refine ⟨_,_,_,?_,hs.alloc _,hk w.heap.size⟩
    simp only [execOp]
    rw [h2]
    simp [hb w]) hd
def zgf (P:Program) (f:FuncId):Prop := ∀ args w,(callFunc f args).run P w = .ok (.enter f args) w
theorem zai {f:FuncId} {xs:List Operand} {ats:Array TypeId} {vs:List Value} {pre F:List HP} {X:Type} {res:X→Value} {pf:X→Prop} {post:X→List HP→List HP}
    (hc:CSpec P W f vs pre res pf post) (hv:evs s xs=some vs) (he:zgf P f) (hdel:Dels H pre F) (hd:Nat.blt d n.n=true)
    (hk:∀ x,pf x→K ((d,res x)::s) (post x F)) :
    OJ P n W ⟨some d,.call { callee := .value (.func f),args := xs.toArray,argTypes := ats },ty,pos,after,g⟩ s H K := by
  intro a w hf hs next Q hn
  refine ⟨?_,fun _ e=>by cases e⟩
  unfold Oper.wp
  have h1:(xs.toArray.map a.eval)=vs.toArray := by rw [← hf.evals hv]; simp
  have hr:(execOp a.eval ⟨some d,.call { callee := .value (.func f),args := xs.toArray,argTypes := ats },ty,pos,after,g⟩).run P w = .ok (.enter f vs.toArray) w := by
    simp only [execOp,resolve,h1]
    simp [Act.eval,Deferred.ofValue,invoke,he _ w]
  rw [hr]
  exact (hc F w (hs.perm hdel.out)).mono fun e w' ⟨x,hx,hp,hs'⟩=>by subst hx; exact hn _ _ _ _ (hk x hp) (hf.put hd _) hs'
theorem zdz {fo:Operand} {f:FuncId} {first captured:List Value} {xs:List Operand} {ats:Array TypeId} {vs:List Value} {pre F:List HP} {X:Type} {res:X→Value} {pf:X→Prop} {post:X→List HP→List HP}
    (hfo:ev s fo=some (.func (.func f) first.toArray captured.toArray)) (hv:evs s xs=some vs) (hc:CSpec P W f (first ++ vs ++ captured) pre res pf post) (he:zgf P f) (hdel:Dels H pre F) (hd:Nat.blt d n.n=true)
    (hk:∀ x,pf x→K ((d,res x)::s) (post x F)) :
    OJ P n W ⟨some d,.call { callee := .value fo,args := xs.toArray,argTypes := ats },ty,pos,after,g⟩ s H K := by
  intro a w hf hs next Q hn
  refine ⟨?_,fun _ e=>by cases e⟩
  unfold Oper.wp
  have h1:(xs.toArray.map a.eval)=vs.toArray := by rw [← hf.evals hv]; simp
  have hr:(execOp a.eval ⟨some d,.call { callee := .value fo,args := xs.toArray,argTypes := ats },ty,pos,after,g⟩).run P w = .ok (.enter f (first ++ vs ++ captured).toArray) w := by
    simp only [execOp,resolve,h1,hf.eval hfo]
    simp [Deferred.ofValue,invoke,he _ w]
  rw [hr]
  exact (hc F w (hs.perm hdel.out)).mono fun e w' ⟨x,hx,hp,hs'⟩=>by subst hx; exact hn _ _ _ _ (hk x hp) (hf.put hd _) hs'
end
theorem zb3 {P:Program} {n:Env} {W:World} {ops:Array Oper} {Q:Exit→Act→World→Prop} {l:List Oper} {s:Slots} {H:List HP} (d:Nat) {t:Bool} (_hl:look s d=some (.bool t))
    (hT:t=true→RJ P n W ops Q l s H) (hF:t=false→RJ P n W ops Q l s H):RJ P n W ops Q l s H := by
  cases t
  · exact hF rfl
  · exact hT rfl
theorem zbu {P:Program} {n:Env} {W:World} {ops:Array Oper} {Q:Exit→Act→World→Prop} {l:List Oper} {s:Slots} {H:List HP} (d:Nat) {p:Prop} [Decidable p] (_hl:look s d=some (.bool (decide p)))
    (hT:decide p=true→p→RJ P n W ops Q l s H) (hF:decide p=false → ¬ p→RJ P n W ops Q l s H):RJ P n W ops Q l s H := by
  by_cases h:p
  · exact hT (decide_eq_true h) h
  · exact hF (decide_eq_false h) h
theorem zav {P:Program} {n:Env} {W:World} {Q:Exit→Act→World→Prop} {s:Slots} {H:List HP} {c:Operand} {x y:Code} {p:Prop} [Decidable p] (hc:ev s c=some (.bool (decide p)))
    (hx:p→CJ P n W Q x s H) (hy:¬ p→CJ P n W Q y s H):CJ P n W Q (.cond c x y) s H :=
  za1 hc (fun h=>hx (of_decide_eq_true h)) (fun h=>hy (of_decide_eq_false h))
theorem zaw {P:Program} {n:Env} {W:World} {Q:Exit→Act→World→Prop} {s:Slots} {H:List HP} {c:Operand} {x y:Code} {p:Prop} [Decidable p] (hc:ev s c=some (.bool (!decide p)))
    (hx:¬ p→CJ P n W Q x s H) (hy:p→CJ P n W Q y s H):CJ P n W Q (.cond c x y) s H :=
  za1 hc (fun h=>hx (by simpa using h)) (fun h=>hy (by simpa using h))
theorem zbv {P:Program} {n:Env} {W:World} {ops:Array Oper} {Q:Exit→Act→World→Prop} {l:List Oper} {s:Slots} {H:List HP} (d:Nat) {p:Prop} [Decidable p] (_hl:look s d=some (.bool (!decide p)))
    (hT:(!decide p)=true → ¬ p→RJ P n W ops Q l s H) (hF:(!decide p)=false→p→RJ P n W ops Q l s H):RJ P n W ops Q l s H := by
  by_cases h:p
  · exact hF (by simp [h]) h
  · exact hT (by simp [h]) h
theorem zbp {P:Program} {n:Env} {W:World} {ops:Array Oper} {Q:Exit→Act→World→Prop} {l:List Oper} {s:Slots} {H:List HP} (d:Nat) {t:Bool} (b:Bool) (_hl:look s d=some (.bool t)) (ht:t=b)
    (h:t=b→RJ P n W ops Q l s H):RJ P n W ops Q l s H := h ht
theorem za7 {P:Program} {n:Env} {W:World} {Q:Exit→Act→World→Prop} {s:Slots} {H:List HP} {c:Operand} {x y:Code} {t:Bool} (hc:ev s c=some (.bool t)) (ht:t=true)
    (hx:CJ P n W Q x s H):CJ P n W Q (.cond c x y) s H := za1 hc (fun _=>hx) (fun h=>by rw [ht] at h; cases h)
theorem zap {P:Program} {n:Env} {W:World} {Q:Exit→Act→World→Prop} {s:Slots} {H:List HP} {c:Operand} {x y:Code} {t:Bool} (hc:ev s c=some (.bool t)) (ht:t=false)
    (hy:CJ P n W Q y s H):CJ P n W Q (.cond c x y) s H := za1 hc (fun h=>by rw [ht] at h; cases h) (fun _=>hy)
end Go.VG
namespace Go.VG
structure Ty (α:Type) where
  T:TypeId
  sz:Nat
  enc:α→List Value
  dflt:α
  len:∀ x,(enc x).length=sz
  one:∀ x,zlm (enc x)=true
  pos:0 < sz
section
variable {α:Type} (t:Ty α)
def flat:List α→List Value
  | []=>[]
  | x::r=>t.enc x ++ flat r
theorem zbr:∀ xs:List α,(flat t xs).length=xs.length * t.sz
  | []=>by simp [flat]
  | x::r=>by simp [flat,zbr r,t.len,Nat.add_mul,Nat.add_comm]
theorem zdv:∀ xs ys:List α,flat t (xs ++ ys)=flat t xs ++ flat t ys
  | [],ys=>by simp [flat]
  | x::r,ys=>by simp [flat,zdv r ys]
theorem zd1:∀ (xs:List α) (i k:Nat),i < xs.length→k < t.sz→(flat t xs)[i * t.sz + k]? = (t.enc (xs.getD i t.dflt))[k]?
  | [],_,_,h,_=>by simp at h
  | x::r,0,k,_,hk=>by simp [flat,List.getElem?_append_left (show k < (t.enc x).length by rw [t.len]; exact hk)]
  | x::r,i + 1,k,hi,hk=>by
    have:(i + 1) * t.sz + k=(t.enc x).length + (i * t.sz + k) := by rw [t.len,Nat.add_mul]; omega
    rw [flat,this,List.getElem?_append_right (by omega),Nat.add_sub_cancel_left]
    simpa using zd1 r i k (by simpa using hi) hk
theorem zi7:∀ (xs:List α) (i:Nat),(flat t xs).take (i * t.sz)=flat t (xs.take i)
  | [],i=>by simp [flat]
  | x::r,0=>by simp [flat]
  | x::r,i + 1=>by
    have h := zi7 r i
    rw [flat,List.take_succ_cons,flat,Nat.add_mul,Nat.one_mul,Nat.add_comm, ← t.len x,List.take_length_add_append,t.len x,h]
theorem zln:∀ (xs:List α) (i:Nat),(flat t xs).drop (i * t.sz)=flat t (xs.drop i)
  | [],i=>by simp [flat]
  | x::r,0=>by simp [flat]
  | x::r,i + 1=>by
    have h := zln r i
    rw [flat,List.drop_succ_cons,Nat.add_mul,Nat.one_mul,Nat.add_comm, ← t.len x,List.drop_length_add_append,t.len x,h]
theorem zrl (xs:List α) (i:Nat) (x:α) (hi:i < xs.length):flat t (xs.set i x)=patch (flat t xs) (i * t.sz) (t.enc x) := by
  have h1:xs.set i x=xs.take i ++ x::xs.drop (i + 1) := by rw [List.set_eq_take_append_cons_drop,if_pos hi]
  rw [h1,zdv,patch,t.len,zi7]
  have:i * t.sz + t.sz=(i + 1) * t.sz := by rw [Nat.add_mul,Nat.one_mul]
  rw [this,zln]
  simp [flat]
theorem zhk:∀ (xs:List α), ∀ v ∈ flat t xs,v.oneCell' = true
  | [],_,h=>by cases h
  | x::r,v,h=>by
    rcases List.mem_append.1 h with h | h
    · exact zhx (t.one x) v h
    · exact zhk r v h
theorem zf0 (x:α):∀ m,flat t (List.replicate m x)=(List.replicate m (t.enc x)).flatten
  | 0=>rfl
  | m + 1=>by simp [List.replicate_succ,flat,zf0 x m]
end
def row (E:TypeId) (sz:Nat) (v:Value) (n:Nat) (cs:List Value):HP := fun h =>
  cs.length=n * sz∧((v = .slice none 0 0∧n=0) ∨
    ∃ g cap cur,v = .slice (some ⟨g,0,none⟩) n cap∧n≤cap∧cap≤maxLen∧cur.size=cap * sz∧cur.toList.take (n * sz)=cs∧h=PH.one g (.cells cur E (0,0)))
def sl {α:Type} (t:Ty α) (v:Value) (xs:List α):HP := row t.T t.sz v xs.length (flat t xs)
def blkOf:Value→Nat
  | .slice (some a) _ _=>a.block
  | _=>0
def offOf:Value→Nat
  | .slice (some a) _ _=>a.off
  | _=>0
def eptr (v:Value) (i sz k:Nat):Value := .pointer (some ⟨blkOf v,offOf v + (i * sz + k),none⟩)
def zc9 (h:PH) (b o:Nat):Option Value := match h b with
  | some (.cells c _ _,_)=>c[o]?
  | _=>none
theorem zkf {g:Nat→Bool} {w:World} {b o:Nat} : zc9 (hpg g w) b o=zc9 (hp w) b o := by
  unfold zc9 hp hpg
  cases w.heap[b]? with
  | none=>rfl
  | some x=>cases x <;> rfl
theorem zth {h1 h2:PH} (_hd:h1.disj h2) {b o:Nat} {v:Value} (h:zc9 h1 b o=some v):zc9 (h1.uni h2) b o=some v := by
  unfold zc9 at h ⊢
  split at h
  · rename_i c T fr q hb
    simp [PH.uni,hb,h]
  · cases h
theorem zf1 {w:World} {b o:Nat} {v:Value} (h:zc9 (hp w) b o=some v):w.cell? ⟨b,o,none⟩=some v := by
  unfold zc9 at h
  unfold World.cell?
  split at h
  · rename_i c T fr q hb
    simp [zhi hb,h]
  · cases h
def SliceIn {α:Type} (t:Ty α) (v:Value) (xs:List α) (h:PH):Prop :=
  (v = .slice none 0 0∧xs=[]) ∨ ∃ (a:Addr) (cap:Nat),v = .slice (some a) xs.length cap∧xs.length≤cap∧cap≤maxLen∧(0 < xs.length→a.spot=none) ∧
    ∀ i k u,i < xs.length→k < t.sz→(t.enc (xs.getD i t.dflt))[k]? = some u→zc9 h a.block (a.off + (i * t.sz + k))=some u
theorem SliceIn.mono {α:Type} {t:Ty α} {v:Value} {xs:List α} {h1 h2:PH} (hd:h1.disj h2) (h:SliceIn t v xs h1):SliceIn t v xs (h1.uni h2) := by
  rcases h with h | ⟨a,cap,h1,h2,h3,h5,h4⟩
  · exact .inl h
  · exact .inr ⟨a,cap,h1,h2,h3,h5,fun i k u hi hk hu=>zth hd (h4 i k u hi hk hu)⟩
def Reads (A:HP) {α:Type} (t:Ty α) (v:Value) (xs:List α):Prop := ∀ h,A h→SliceIn t v xs h
theorem Reads.sl {α:Type} (t:Ty α) (v:Value) (xs:List α):Reads (sl t v xs) t v xs := by
  rintro h ⟨hl,hv⟩
  rcases hv with ⟨rfl,hn⟩ | ⟨g,cap,cur,rfl,hc,hm,hs,ht,rfl⟩
  · exact .inl ⟨rfl,List.eq_nil_of_length_eq_zero hn⟩
  · refine .inr ⟨⟨g,0,none⟩,cap,rfl,hc,hm,fun _=>rfl,fun i k u hi hk hu => ?_⟩
    have h1 := zd1 t xs i k hi hk
    rw [hu, ← ht,List.getElem?_take] at h1
    simp only [zc9,PH.one,if_true,Nat.zero_add]
    split at h1
    · simpa using h1
    · cases h1
theorem Reads.at {α:Type} {t:Ty α} {A:HP} {v:Value} {xs:List α} {W w:World} {H:List HP} {C:HP→List HP} (hr:Reads A t v xs) (hf:Foc H A C) (hs:St W w H):SliceIn t v xs (hp w) := by
  obtain ⟨F,hperm,_⟩ := hf.focus
  obtain ⟨gg,h1,h2,hd,he,hA,_⟩ := (hs.perm hperm).heap
  have h3:SliceIn t v xs (hpg gg w) := by rw [he]; exact (hr h1 hA).mono hd
  rcases h3 with h | ⟨a,cap,h1,h2,h3,h5,h4⟩
  · exact .inl h
  · exact .inr ⟨a,cap,h1,h2,h3,h5,fun i k u hi hk hu=>by rw [← zkf (g:=gg)]; exact h4 i k u hi hk hu⟩
theorem SliceIn.eptr {α:Type} {t:Ty α} {v:Value} {xs:List α} {w:World} (h:SliceIn t v xs (hp w)) {i k:Nat} {u:Value} (hi:i < xs.length) (hk:k < t.sz) (hu:(t.enc (xs.getD i t.dflt))[k]? = some u) :
    w.cell? ⟨blkOf v,offOf v + (i * t.sz + k),none⟩=some u := by
  rcases h with ⟨_,rfl⟩ | ⟨a,cap,rfl,_,_,_,h4⟩
  · simp at hi
  · exact zf1 (h4 i k u hi hk hu)
section
variable {P:Program} {n:Env} {W:World} {s:Slots} {H:List HP} {K:Slots→List HP→Prop} {d:Nat} {dst:Option Tmp} {ty:TypeId} {pos:String} {after:Array Edge} {g:Option (Nat × Bool)}
variable {α:Type} {t:Ty α} {A:HP} {C:HP→List HP} {v:Value} {xs:List α}
theorem V_len {x:Operand} {T E:TypeId} (hx:ev s x=some v) (hf':Foc H A C) (hr:Reads A t v xs) (hT:∀ w,(underlying T).run P w = .ok (.slice E) w):VJ P n W ⟨dst,.call { callee := .builtin .len,args := #[x],argTypes := #[T] },ty,pos,after,g⟩ s H (.int .i64 (xs.length:Int)) :=
  (fun q w hf hs=>by
    rcases hr.at hf' hs with ⟨rfl,rfl⟩ | ⟨a,cap,rfl,_,_,_,_⟩
    · simp [execOp,resolve,invoke,builtin,Builtin.len_,hf.eval hx,hT,goInt]
    · simp [execOp,resolve,invoke,builtin,Builtin.len_,hf.eval hx,hT,goInt])
theorem zca {x:Operand} {T E:TypeId} {p:Option Addr} {m c:Nat} (hx:ev s x=some (.slice p m c)) (hT:∀ w,(underlying T).run P w = .ok (.slice E) w):PJ P n ⟨dst,.call { callee := .builtin .len,args := #[x],argTypes := #[T] },ty,pos,after,g⟩ s (.int .i64 (m:Int)) :=
  (fun q w hf=>by simp [execOp,resolve,invoke,builtin,Builtin.len_,hf.eval hx,hT,goInt])
theorem zam {x ix:Operand} {T E:TypeId} {k:IntKind} {i:Nat} {a:Int} (hx:ev s x=some v) (hi:ev s ix=some (.int k a)) (ha:a=(i:Int)) (hlt:i < xs.length) (hf':Foc H A C) (hr:Reads A t v xs)
    (hT:∀ w,(underlying T).run P w = .ok (.slice E) w) (hE:∀ w,(sizeOf E).run P w = .ok t.sz w):VJ P n W ⟨dst,.indexAddr T x ix,ty,pos,after,g⟩ s H (eptr v i t.sz 0) :=
  (fun q w hf hs=>by
    subst ha
    rcases hr.at hf' hs with ⟨rfl,rfl⟩ | ⟨x0,cap,rfl,_,_,hsp,_⟩
    · simp at hlt
    · have hsp' := hsp (by omega)
      simp [execOp,hf.eval hx,hf.eval hi,Instr.indexAt,asIntOf,hT,hE,hlt,eptr,blkOf,offOf,zcy _ _ hsp'])
theorem zbl {x:Operand} {T:TypeId} {f o i sz k:Nat} (hx:ev s x=some (eptr v i sz k)) (hT:zpj P T f o):PJ P n ⟨dst,.fieldAddr T x f,ty,pos,after,g⟩ s (eptr v i sz (k + o)) :=
  (fun q w hf=>by
    have := znf hT (a:=⟨blkOf v,offOf v + (i * sz + k),none⟩) rfl w
    simp only [execOp,hf.eval hx,eptr,Sem.run_bind,this]
    simp [Nat.add_assoc])
theorem zco {x:Operand} {i sz k:Nat} (hx:ev s x=some (eptr v i sz k)):PJ P n ⟨dst,.nilCheck x,ty,pos,after,g⟩ s (eptr v i sz k) :=
  (fun q w hf=>by simp [execOp,hf.eval hx,eptr])
theorem za6 {x:Operand} {T:TypeId} {i k sz:Nat} {u:Value} (hx:ev s x=some (eptr v i sz k)) (hsz:sz=t.sz) (hlt:i < xs.length) (hf':Foc H A C) (hr:Reads A t v xs) (hkk:Nat.blt k t.sz=true)
    (hu:(t.enc (xs.getD i t.dflt))[k]? = some u) (hT:∀ w,(isAgg T).run P w = .ok false w):VJ P n W ⟨dst,.load T x,ty,pos,after,g⟩ s H (u) :=
  (fun q w hf hs=>by
    subst hsz
    have hc := (hr.at hf' hs).eptr hlt (by simpa using hkk) hu
    simp [execOp,hf.eval hx,eptr,Instr.loadAt,Instr.sureAddr,loadVar,hT,hc])
theorem zdb {x:Operand} {T:TypeId} {i k m sz:Nat} {us:List Value} (hx:ev s x=some (eptr v i sz k)) (hsz:sz=t.sz) (hlt:i < xs.length) (hf':Foc H A C) (hr:Reads A t v xs)
    (hkk:Nat.ble (k + m) t.sz=true) (hu:((t.enc (xs.getD i t.dflt)).drop k).take m=us) (hT:∀ w,(isAgg T).run P w = .ok true w) (hm:∀ w,(sizeOf T).run P w = .ok m w):VJ P n W ⟨dst,.load T x,ty,pos,after,g⟩ s H (.agg us.toArray) :=
  (fun q w hf hs=>by
    subst hsz
    have hle:k + m≤t.sz := Nat.le_of_ble_eq_true hkk
    have hin := hr.at hf' hs
    have hlen:us.length=m := by rw [← hu]; simp [t.len]; omega
    have hl := run_loadCells_list (P:=P) w ⟨blkOf v,offOf v + (i * t.sz + k),none⟩ us (fun j u hj=>by
      rw [zcy _ _ rfl]
      have hjm:j < m := by
        rcases Nat.lt_or_ge j m with h | h
        · exact h
        · rw [List.getElem?_eq_none (by omega)] at hj; cases hj
      have := hin.eptr hlt (k:=k + j) (u:=u) (by omega) (by rw [← hu,List.getElem?_take,if_pos hjm,List.getElem?_drop] at hj; exact hj)
      simpa [Nat.add_assoc] using this)
    rw [hlen] at hl
    simp [execOp,hf.eval hx,eptr,Instr.loadAt,Instr.sureAddr,loadVar,hT,hm,hl])
theorem zeo {w:World} {F:List HP} (h:St W w (sl t v xs::F)) :
    (v = .slice none 0 0∧xs=[]∧St W w F) ∨ ∃ b cap cur,v = .slice (some ⟨b,0,none⟩) xs.length cap∧xs.length≤cap∧cap≤maxLen∧cur.size=cap * t.sz∧cur.toList.take (xs.length * t.sz)=flat t xs ∧
      St W w (pt b (.cells cur t.T (0,0))::F) := by
  obtain ⟨gg,h1,h2,hd,he,⟨hl,hv⟩,hF⟩ := h.heap
  rcases hv with ⟨rfl,hn⟩ | ⟨b,cap,cur,rfl,hc,hm,hs,ht,rfl⟩
  · exact .inl ⟨rfl,List.eq_nil_of_length_eq_zero hn,h.tail⟩
  · exact .inr ⟨b,cap,cur,rfl,hc,hm,hs,ht,h.os,h.tape,h.output,gg,PH.one b _,h2,hd,he,rfl,hF⟩
theorem zep {w:World} {F:List HP} {b cap:Nat} {cur:Array Value} (hc:xs.length≤cap) (hm:cap≤maxLen) (hs:cur.size=cap * t.sz) (ht:cur.toList.take (xs.length * t.sz)=flat t xs)
    (h:St W w (pt b (.cells cur t.T (0,0))::F)):St W w (sl t (.slice (some ⟨b,0,none⟩) xs.length cap) xs::F) := by
  obtain ⟨gg,h1,h2,hd,he,rfl,hF⟩ := h.heap
  exact ⟨h.os,h.tape,h.output,gg,_,h2,hd,he,⟨zbr t xs,.inr ⟨b,cap,cur,rfl,hc,hm,hs,ht,rfl⟩⟩,hF⟩
theorem zch (h:PH) {F:List HP} (hh:stars F h):stars (sl t (.slice none 0 0) []::F) h :=
  ⟨fun _=>none,h,fun _ => .inl rfl,by funext k; simp [PH.uni],⟨by simp [flat],.inl ⟨rfl,rfl⟩⟩,hh⟩
theorem zcb {x y:Operand} {T:TypeId} {i k sz:Nat} {u:Value} {x':α} (hx:ev s x=some (eptr v i sz k)) (hy:ev s y=some u) (hsz:sz=t.sz) (hlt:i < xs.length) (hf':Foc H (sl t v xs) C) (hkk:Nat.blt k t.sz=true)
    (hu:u.oneCell' = true) (he:t.enc x' = (t.enc (xs.getD i t.dflt)).set k u) (hT:∀ w,(sizeOf T).run P w = .ok 1 w) (hk:K s (C (sl t v (xs.set i x')))) :
    OJ P n W ⟨none,.store T x y,ty,pos,after,g⟩ s H K :=
  OJ_do (fun q w hf hs=>by
    subst hsz
    obtain ⟨F,hp,hC⟩ := hf'.focus
    have hs1 := hs.perm hp
    have hk':k < t.sz := by simpa using hkk
    rcases zeo hs1 with ⟨rfl,rfl,_⟩ | ⟨b,cap,cur,rfl,hc,hm,hsz,ht,hs2⟩
    · simp at hlt
    have hoff:i * t.sz + k < xs.length * t.sz := by
      have:i * t.sz + t.sz≤xs.length * t.sz := by rw [← Nat.succ_mul]; exact Nat.mul_le_mul_right _ hlt
      omega
    have hoc:i * t.sz + k < cur.size := by rw [hsz]; exact Nat.lt_of_lt_of_le hoff (Nat.mul_le_mul_right _ hc)
    refine ⟨w.setCell ⟨b,i * t.sz + k,none⟩ u,C (sl t _ (xs.set i x')),.inl ?_,?_,hk⟩
    · have hcs:u.cells = #[u] := by cases u <;> first | rfl | cases hu
      have hcell := hs2.cell (i:=i * t.sz + k)
      have hfr := hs2.frozen (i:=i * t.sz + k)
      simp only [execOp,hf.eval hx,hf.eval hy,Instr.storeAt,Instr.sureAddr,storeVar,eptr,blkOf,offOf,Nat.zero_add]
      simp only [Sem.run_bind,hT,hcs,Sem.run_pure,Result.andThen_ok]
      have hst := run_store P w ⟨b,i * t.sz + k,none⟩ u .plain hu
      simp [storeCells,zcy,hst,hcell,hoc,hfr]
    · have h3 := hs2.setCell (i:=i * t.sz + k) (v:=u)
      have h4 := zep (t:=t) (xs:=xs.set i x') (b:=b) (cap:=cap) (by simpa using hc) hm (by simpa using hsz) (by
        rw [zrl t xs i x' hlt,he,List.length_set,Array.toList_setIfInBounds,List.take_set,ht]
        apply List.ext_getElem?
        intro j
        simp only [patch,List.length_set,t.len]
        have hfl := zbr t xs
        have hble:i * t.sz + t.sz≤xs.length * t.sz := by rw [← Nat.succ_mul]; exact Nat.mul_le_mul_right _ hlt
        rw [List.getElem?_append,List.getElem?_append]
        simp only [List.length_append,List.length_take,List.length_set,t.len,hfl,List.getElem?_take,List.getElem?_drop]
        have hmin:min (i * t.sz) (xs.length * t.sz)=i * t.sz := by omega
        rw [hmin]
        by_cases h1:j < i * t.sz
        · rw [if_pos (by omega),if_pos h1,if_pos h1,List.getElem?_set_ne (by omega)]
        · by_cases h2:j < i * t.sz + t.sz
          · rw [if_pos h2,if_neg h1]
            by_cases h5:j=i * t.sz + k
            · subst h5
              rw [List.getElem?_set_self (by omega),Nat.add_sub_cancel_left,List.getElem?_set_self (by rw [t.len]; exact hk')]
            · rw [List.getElem?_set_ne (by omega),List.getElem?_set_ne (by omega)]
              have := zd1 t xs i (j - i * t.sz) hlt (by omega)
              rw [← this]
              congr 1
              omega
          · rw [if_neg h2,List.getElem?_set_ne (by omega)]
            congr 1
            omega) h3
      rw [List.length_set] at h4
      exact h4.perm (hC _).symm)
theorem zd9 {x y:Operand} {T:TypeId} {i sz:Nat} {x':α} {us:List Value} (hx:ev s x=some (eptr v i sz 0)) (hy:ev s y=some (.agg us.toArray)) (hsz:sz=t.sz) (hlt:i < xs.length) (hf':Foc H (sl t v xs) C)
    (he:t.enc x' = us) (hT:∀ w,(sizeOf T).run P w = .ok t.sz w) (hk:K s (C (sl t v (xs.set i x')))) :
    OJ P n W ⟨none,.store T x y,ty,pos,after,g⟩ s H K :=
  OJ_do (fun q w hf hs=>by
    subst hsz
    obtain ⟨F,hp,hC⟩ := hf'.focus
    have hs1 := hs.perm hp
    rcases zeo hs1 with ⟨rfl,rfl,_⟩ | ⟨b,cap,cur,rfl,hc,hm,hsz,ht,hs2⟩
    · simp at hlt
    have hlen:us.length=t.sz := by rw [← he,t.len]
    have hble:i * t.sz + t.sz≤xs.length * t.sz := by rw [← Nat.succ_mul]; exact Nat.mul_le_mul_right _ hlt
    have hcc:xs.length * t.sz≤cap * t.sz := Nat.mul_le_mul_right _ hc
    have hst := run_storeCells_at P b (i * t.sz) t.T us 0 cur w hs2.blk (by rw [hlen,hsz]; omega) (by rw [← he]; exact zhx (t.one x'))
    simp only [Nat.add_zero] at hst
    refine ⟨w.setRow b (cur.toList.take (i * t.sz) ++ us ++ cur.toList.drop (i * t.sz + us.length)).toArray,C (sl t _ (xs.set i x')),.inl ?_,?_,hk⟩
    rotate_left
    · have h3 := hs2.setRow (c' := (cur.toList.take (i * t.sz) ++ us ++ cur.toList.drop (i * t.sz + us.length)).toArray)
      have h4 := zep (t:=t) (xs:=xs.set i x') (b:=b) (cap:=cap) (by simpa using hc) hm (by simp only [List.size_toArray,List.length_append,List.length_take,List.length_drop,Array.length_toList,hlen,hsz]; omega) (by
        rw [zrl t xs i x' hlt,he,List.length_set, ← ht,patch]
        simp only [hlen]
        apply List.ext_getElem?
        intro j
        have hcl:cur.toList.length=cap * t.sz := by simpa using hsz
        simp only [List.getElem?_take,List.getElem?_append,List.getElem?_drop,List.length_append,List.length_take,hcl,hlen]
        have hm1:min (i * t.sz) (cap * t.sz)=i * t.sz := by omega
        have hm2:min (i * t.sz) (min (xs.length * t.sz) (cap * t.sz))=i * t.sz := by omega
        simp only [hm1,hm2]
        by_cases h1:j < i * t.sz
        · simp [h1,show j < i * t.sz + t.sz by omega,show j < xs.length * t.sz by omega]
        · by_cases h2:j < i * t.sz + t.sz
          · simp [h1,h2,show j < xs.length * t.sz by omega]
          · by_cases h5:j < xs.length * t.sz
            · simp [h2,h5,show i * t.sz + t.sz + (j - (i * t.sz + t.sz)) < xs.length * t.sz by omega]
            · simp [h2,h5,show ¬ i * t.sz + t.sz + (j - (i * t.sz + t.sz)) < xs.length * t.sz by omega]) h3
      rw [List.length_set] at h4
      exact h4.perm (hC _).symm
    · simp only [execOp,hf.eval hx,hf.eval hy,Instr.storeAt,Instr.sureAddr,storeVar,eptr,blkOf,offOf,Nat.zero_add,Nat.add_zero]
      simp [hT,Value.cells,hlen,hst])
end
end Go.VG
namespace Go.VG
theorem zqm {F:List HP} {a b:PH} (hs:∀ k o,a k=some o→b k=some o) (h:stars F a):stars F b := by
  have:b=PH.uni (fun k=>match a k with | some _=>none | none=>b k) a := by
    funext k
    simp only [PH.uni]
    cases hk:a k with
    | none=>simp
    | some o=>simp [hs k o hk]
  rw [this]
  refine ze4 F (fun k => ?_) h
  cases hk:a k with
  | none=>exact .inr (.inl rfl)
  | some o=>left; simp
theorem h2_of {h1 h2:PH} (hd:h1.disj h2) {k:Nat} {o2:Obj × Bool} (h:h2 k=some o2):(h1.uni h2) k=some o2 := by
  rcases hd k with h' | h' | ⟨h',_⟩
  · simp [PH.uni,h',h]
  · rw [h] at h'; cases h'
  · simp [PH.uni,h',h]
theorem ne_of {h1 h2:PH} (hd:h1.disj h2) {k:Nat} {o2:Obj × Bool} (h:h2 k=some o2):∀ o,h1 k≠some (o,false) := fun o e=>by
  rcases hd k with h' | h' | ⟨h',x,hx⟩
  · rw [e] at h'; cases h'
  · rw [h] at h'; cases h'
  · rw [e] at hx; cases hx
theorem zvm {g:Nat→Bool} {w:World} {k:Nat} {o:Obj × Bool} (h:hpg g w k=some o):k < w.heap.size := by
  rcases Nat.lt_or_ge k w.heap.size with h' | h'
  · exact h'
  · simp [hpg,Array.getElem?_eq_none h'] at h
theorem St.grown {W w w':World} {A:HP} {F:List HP} {r:Option Nat} {b:Nat} {o:Obj} (h:St W w (A::F)) (hA:∀ h1,A h1 → ∀ k,some k=r → ∃ o,h1 k=some (o,false)) (hg:w.grownBy w' r)
    (hb:w'.heap[b]? = some o) (hbn:some b=r∨w.heap.size≤b):St W w' (pt b o::F) := by
  obtain ⟨gg,h1,h2,hd,he,hA1,hF⟩ := h.heap
  refine ⟨hg.os.trans h.os,hg.tape.trans h.tape,hg.output.trans h.output,fun k=>if k=b then false else gg k,PH.one b o,fun k=>if k=b then none else hpg gg w' k,?_,?_,rfl,?_⟩
  · exact zg1 (b:=b) (by simp) (fun k hk=>by simp [PH.one,hk])
  · funext k
    by_cases hk:k=b
    · subst hk; simp [PH.uni,PH.one,hpg,hb]
    · simp only [PH.uni,PH.one,hk,hpg,if_false,Option.none_or]
  · refine zqm (fun k o2 hk => ?_) hF
    have hwk:hpg gg w k=some o2 := by rw [he]; exact h2_of hd hk
    have hlt := zvm hwk
    have hne:some k≠r := fun e=>by
      obtain ⟨o3,h3⟩ := hA h1 hA1 k e
      exact ne_of hd hk _ h3
    have hkb:k≠b := fun e=>by
      subst e
      rcases hbn with h' | h'
      · exact hne h'
      · omega
    have := hg.block k hlt hne
    simp only [hkb,if_false,hpg] at hwk ⊢
    rw [this]; exact hwk
theorem zjm {α:Type} {t:Ty α} {W w:World} {v:Value} {xs:List α} {F:List HP} (h:St W w (sl t v xs::F)):w.ownsRow 0 t.T t.sz v xs.length (flat t xs) := by
  rcases zeo h with ⟨rfl,rfl,_⟩ | ⟨b,cap,cur,rfl,hc,hm,hs,ht,h2⟩
  · exact World.ownsRow_nil w 0 t.T t.sz
  · exact ⟨zbr t xs,.inr ⟨b,cap,cur,rfl,Nat.zero_le _,h2.blk,hc,hm,hs,ht⟩⟩
theorem zng {α:Type} {t:Ty α} {W w w':World} {v v':Value} {xs ys:List α} {F:List HP} (h:St W w (sl t v xs::F)) (hg:w.grownBy w' v.ownBlock) (ho:w'.ownsRow w.heap.size t.T t.sz v' ys.length (flat t ys)∨(w'.ownsRow 0 t.T t.sz v' ys.length (flat t ys)∧(v'.ownBlock=v.ownBlock∨v'.ownBlock=none ∨ ∃ b,v'.ownBlock=some b∧w.heap.size≤b))) :
    St W w' (sl t v' ys::F) := by
  have hA:∀ h1,sl t v xs h1 → ∀ k,some k=v.ownBlock → ∃ o,h1 k=some (o,false) := by
    rintro h1 ⟨_,hv⟩ k hk
    rcases hv with ⟨rfl,_⟩ | ⟨b,cap,cur,rfl,_,_,_,_,rfl⟩
    · cases hk
    · simp only [Value.ownBlock,Option.some.injEq] at hk; subst hk; simp [PH.one]
  obtain ⟨ho',hnew⟩:w'.ownsRow 0 t.T t.sz v' ys.length (flat t ys)∧(v'.ownBlock=v.ownBlock∨v'.ownBlock=none ∨ ∃ b,v'.ownBlock=some b∧w.heap.size≤b) := by
    rcases ho with ⟨h1,h2⟩ | ho
    · rcases h2 with ⟨rfl,h2⟩ | ⟨b,cap,cur,rfl,hb,r⟩
      · exact ⟨⟨h1,.inl ⟨rfl,h2⟩⟩,.inr (.inl rfl)⟩
      · exact ⟨⟨h1,.inr ⟨b,cap,cur,rfl,Nat.zero_le _,r⟩⟩,.inr (.inr ⟨b,rfl,hb⟩)⟩
    · exact ho
  rcases ho'.2 with ⟨rfl,hn⟩ | ⟨b,cap,cur,rfl,_,hb,hc,hm,hs,ht⟩
  · have hy:ys=[] := List.eq_nil_of_length_eq_zero hn
    subst hy
    obtain ⟨gg,h1,h2,hd,he,hA1,hF⟩ := h.heap
    refine ⟨hg.os.trans h.os,hg.tape.trans h.tape,hg.output.trans h.output,gg,zch _ ?_⟩
    refine zqm (fun k o2 hk => ?_) hF
    have hwk:hpg gg w k=some o2 := by rw [he]; exact h2_of hd hk
    have hlt := zvm hwk
    have := hg.block k hlt (fun e=>by obtain ⟨o3,h3⟩ := hA h1 hA1 k e; exact ne_of hd hk _ h3)
    simp only [hpg] at hwk ⊢
    rw [this]; exact hwk
  · refine zep hc hm hs ht (St.grown h hA hg hb ?_)
    rcases hnew with h' | h' | ⟨b',h',h''⟩
    · exact .inl h'
    · cases h'
    · simp only [Value.ownBlock,Option.some.injEq] at h'; subst h'; exact .inr h''
structure ElemOk (P:Program) {α:Type} (t:Ty α) (bytes:Nat):Prop where
  info:∃ i z,P.info? t.T=some i∧i.zero=some z∧i.size=t.sz∧i.bytes=bytes∧z.cells.size=t.sz
section
variable {P:Program} {n:Env} {W:World} {s:Slots} {H:List HP} {K:Slots→List HP→Prop} {d:Nat} {dst:Option Tmp} {ty:TypeId} {pos:String} {after:Array Edge} {g:Option (Nat × Bool)}
variable {α:Type} {t:Ty α} {A:HP} {C:HP→List HP} {v:Value} {xs ys:List α} {bytes:Nat}
theorem zpk {w:World} {T E:TypeId} {u:Value} {F:List HP} (hs:St W w (sl t v xs::F)) (hu:SliceIn t u ys (hp w)) (hT:P.underlying T=some (.slice t.T)) (hok:ElemOk P t bytes)
    (h63:xs.length + ys.length≤maxLen) (hby:(xs.length + ys.length) * bytes≤140737488355328) :
    ∃ v' w',(Builtin.append_ #[T,T] E #[v,u]).run P w = .ok v' w' ∧ St W w' (sl t v' (xs ++ ys)::F) := by
  obtain ⟨i,z,hi,hz,hsz,hb,hzc⟩ := hok.info
  have hsmall:xs.length + ys.length≤9223372036854775807 := by simp only [maxLen] at h63; omega
  rcases hu with ⟨rfl,rfl⟩ | ⟨ua,cap,rfl,hcap,_,hsp,hcells⟩
  · -- nothing is appended
    rcases zeo hs with ⟨rfl,rfl,hF⟩ | ⟨b,cap,cur,rfl,hc,hm,hs',ht,h2⟩
    · refine ⟨.slice none 0 0,w,?_,by simpa using hs⟩
      simp [Builtin.append_,run_underlying hT,sizeOf,typeInfo,hi,Builtin.lenOf,Builtin.firstCells]
    · refine ⟨.slice (some ⟨b,0,none⟩) xs.length cap,w,?_,by simpa using hs⟩
      simp [Builtin.append_,run_underlying hT,sizeOf,typeInfo,hi,Builtin.lenOf,Builtin.firstCells,hc,storeCells]
  · have hnews:∀ j x,(flat t ys)[j]? = some x→w.cell? (ua.add j)=some x := by
      intro j x hj
      have hne:0 < ys.length := by
        cases ys with
        | nil=>simp [flat] at hj
        | cons y r=>simp
      rw [zcy _ _ (hsp hne)]
      have hjl:j < (flat t ys).length := by
        rcases Nat.lt_or_ge j (flat t ys).length with h | h
        · exact h
        · rw [List.getElem?_eq_none h] at hj; cases hj
      rw [zbr] at hjl
      have h1:j / t.sz < ys.length := Nat.div_lt_of_lt_mul (by rw [Nat.mul_comm]; exact hjl)
      have h2:j % t.sz < t.sz := Nat.mod_lt _ t.pos
      have h3:j / t.sz * t.sz + j % t.sz=j := by rw [Nat.mul_comm]; exact Nat.div_add_mod j t.sz
      have h4 := zd1 t ys (j / t.sz) (j % t.sz) h1 h2
      rw [h3,hj] at h4
      have := hcells (j / t.sz) (j % t.sz) x h1 h2 h4.symm
      rw [h3] at this
      exact zf1 this
    have hown := zjm hs
    rcases zeo hs with ⟨rfl,rfl,hF⟩ | ⟨b0,cap0,cur,rfl,hc,hm,hs',ht,h2⟩
    · have hown':w.ownsRow w.heap.size t.T t.sz (.slice none 0 0) ([]:List α).length (flat t ([]:List α)) := World.ownsRow_nil w _ t.T t.sz
      obtain ⟨v',w',hr,ho,hg,_⟩ := run_append_own (P:=P) w w.heap.size T E t.T i z t.sz bytes hT hi hz hsz hb hzc t.pos (.slice none 0 0) _ _ hown' ua ys.length cap (flat t ys) (zbr t ys) hnews (zhk t ys)
        h63 hby (Nat.le_refl _)
      refine ⟨v',w',hr,zng hs hg (.inl ?_)⟩
      simpa [flat] using ho
    · by_cases hroom:xs.length + ys.length≤cap0
      · have hfit:xs.length * i.size + (flat t ys).length≤cur.size := by rw [zbr,hs',hsz, ← Nat.add_mul]; exact Nat.mul_le_mul_right _ hroom
        have hr := run_append_room (P:=P) w T E t.T i hT hi b0 xs.length cap0 cur h2.blk ua ys.length cap (flat t ys) (by rw [zbr,hsz]) hnews (zhk t ys) hroom hfit
        refine ⟨_,_,hr,?_⟩
        have h3 := h2.setRow (c' := (cur.toList.take (xs.length * i.size) ++ flat t ys ++ cur.toList.drop (xs.length * i.size + (flat t ys).length)).toArray)
        have h4 := zep (t:=t) (xs:=xs ++ ys) (b:=b0) (cap:=cap0) (by simpa using hroom) hm (by
          have hfl := zbr t ys
          rw [hsz] at hfit ⊢
          simp only [List.size_toArray,List.length_append,List.length_take,List.length_drop,Array.length_toList]
          omega) (by
          rw [hsz,ht, ← zdv,List.length_append, ← List.length_append, ← zbr,List.take_left']
          rfl) h3
        simpa using h4
      · have hown' := hown
        have hr := run_append_grow (P:=P) w T E t.T i z hT hi hz ⟨b0,0,none⟩ xs.length cap0 (flat t xs) (by rw [zbr,hsz]) (hown.cells (g:=b0) rfl) ua ys.length cap (flat t ys) (by rw [zbr,hsz]) hnews
          (by omega) (by omega) (growslice_fits (by omega) (by rw [hb]; exact hby))
        refine ⟨_,_,hr,?_⟩
        have hge := grownCap_ge w (xs.length + ys.length) cap0 t.T
        have hcm:grownCap w (xs.length + ys.length) cap0 t.T≤maxLen := grownCap_le_maxLen w _ cap0 t.T h63
        have h3:St W w.drew F := h2.tail.drew
        have h4 := h3.alloc (.cells ((flat t xs).toArray ++ (flat t ys).toArray ++ Builtin.zeroCells z.cells (grownCap w (xs.length + ys.length) cap0 t.T - (xs.length + ys.length))) t.T)
        have h5 := zep (t:=t) (xs:=xs ++ ys) (cap:=grownCap w (xs.length + ys.length) cap0 t.T) (by simpa using hge) hcm (by
          simp only [Array.size_append,List.size_toArray,size_zeroCells,hzc,zbr, ← Nat.add_mul]
          congr 1
          omega) (by
          simp only [Array.toList_append,List.append_assoc]
          rw [← List.append_assoc, ← zdv, ← zbr,List.take_left']
          rfl) h4
        simpa using h5
theorem zrm {w:World} {F:List HP} (h:St W w (sl t v xs::F)):∃ p c,v = .slice p xs.length c := by
  rcases zeo h with ⟨rfl,rfl,_⟩ | ⟨b,cap,cur,rfl,_⟩
  · exact ⟨none,0,rfl⟩
  · exact ⟨_,_,rfl⟩
theorem zb1 {x y:Operand} {T E:TypeId} {u:Value} {F:List HP} (hx:ev s x=some v) (hy:ev s y=some u) (hdel:Del H (sl t v xs) F) (hf':Foc F A C) (hr:Reads A t u ys) (hT:P.underlying T=some (.slice t.T)) (hok:ElemOk P t bytes)
    (h63:xs.length + ys.length≤maxLen) (hby:(xs.length + ys.length) * bytes≤140737488355328) (hd:Nat.blt d n.n=true) (hk:∀ p c,K ((d,.slice p (xs ++ ys).length c)::s) (sl t (.slice p (xs ++ ys).length c) (xs ++ ys)::F)) :
    OJ P n W ⟨some d,.call { callee := .builtin .append,args := #[x,y],argTypes := #[T,T] },E,pos,after,g⟩ s H K :=
  zge (fun q w hf hs=>by
    have hs1 := hs.perm hdel.out
    obtain ⟨v',w',hr',hs'⟩ := zpk (P:=P) (E:=E) hs1 (hr.at hf' hs1.tail) hT hok h63 hby
    obtain ⟨p,c,rfl⟩ := zrm hs'
    refine ⟨_,w',_,?_,hs',hk p c⟩
    simp [execOp,resolve,invoke,builtin,hf.eval hx,hf.eval hy,hr']) hd
theorem Reads.lit {b cap m:Nat} {E:TypeId} {cs:List Value} {ys:List α} (hE:E=t.T) (hm:ys.length=m) (hc:m≤cap) (hcm:cap≤maxLen) (he:flat t ys=cs):Reads (blk b E cs) t (.slice (some ⟨b,0,none⟩) m cap) ys := by
  intro h hh
  subst hE hm he
  refine .inr ⟨⟨b,0,none⟩,cap,rfl,hc,hcm,fun _=>rfl,fun i k u hi hk hu => ?_⟩
  rw [show h=PH.one b _ from hh]
  have := zd1 t ys i k hi hk
  simp only [zc9,PH.one,if_true,Nat.zero_add,List.getElem?_toArray]
  rw [this,hu]
theorem zb5 {b m:Nat} {E:TypeId} {cs:List Value} {F:List HP} (ys:List α) (hE:E=t.T) (hm:m=ys.length) (he:flat t ys=cs) (hmm:m≤maxLen):Ent (blk b E cs::F) (sl t (.slice (some ⟨b,0,none⟩) m m) ys::F) := by
  intro h hh
  subst hE hm he
  obtain ⟨h1,h2,hd,e,h1e,hr⟩ := hh
  refine ⟨h1,h2,hd,e,⟨zbr t ys,.inr ⟨b,ys.length,(flat t ys).toArray,rfl,Nat.le_refl _,hmm,by simp [zbr],?_,h1e⟩⟩,hr⟩
  rw [← zbr]; simp
def zfo (xs ys:List α):List α := ys.take (min ys.length xs.length) ++ xs.drop (min ys.length xs.length)
theorem zh7 (xs ys:List α):(zfo xs ys).length=xs.length := by simp [zfo]; omega
theorem zrn {x y:Operand} {T T' E:TypeId} {u:Value} {F:List HP} (hx:ev s x=some v) (hy:ev s y=some u) (hdel:Del H (sl t v xs) F) (hf':Foc F A C) (hr:Reads A t u ys) (hT:P.underlying T=some (.slice t.T)) (hok:ElemOk P t bytes)
    (hd:Nat.blt d n.n=true) (hk:K ((d,.int .i64 ((min ys.length xs.length:Nat):Int))::s) (sl t v (zfo xs ys)::F)) :
    OJ P n W ⟨some d,.call { callee := .builtin .copy,args := #[x,y],argTypes := #[T,T'] },E,pos,after,g⟩ s H K :=
  zge (fun q w hf hs=>by
    obtain ⟨i,z,hi,hz,hsz,hb,hzc⟩ := hok.info
    have hs1 := hs.perm hdel.out
    have hu := hr.at hf' hs1.tail
    -- the cells that are zfo
    have hlenu:∃ a c,u = .slice a ys.length c := by
      rcases hu with ⟨rfl,rfl⟩ | ⟨a,cap,rfl,_⟩
      · exact ⟨none,0,rfl⟩
      · exact ⟨_,_,rfl⟩
    obtain ⟨ua,uc,rfl⟩ := hlenu
    have hfirst:∀ m,m≤ys.length→(Builtin.firstCells t.sz m (.slice ua ys.length uc)).run P w = .ok (flat t (ys.take m)).toArray w := by
      intro m hm
      rcases hu with ⟨he,rfl⟩ | ⟨a0,cap,he,hcap,_,hsp,hcells⟩
      · injection he with h1 h2 h3; subst h1
        have:m=0 := by simpa using hm
        subst this
        simp [Builtin.firstCells,flat]
      · injection he with h1 h2 h3; subst h1
        have hl := run_loadCells_list (P:=P) w a0 (flat t (ys.take m)) (fun j x hj=>by
          have hne:0 < ys.length := by
            cases ys with
            | nil=>simp [flat] at hj
            | cons y r=>simp
          rw [zcy _ _ (hsp hne)]
          have hjl:j < (flat t (ys.take m)).length := by
            rcases Nat.lt_or_ge j (flat t (ys.take m)).length with h | h
            · exact h
            · rw [List.getElem?_eq_none h] at hj; cases hj
          rw [zbr,List.length_take,Nat.min_eq_left hm] at hjl
          have h1:j / t.sz < m := Nat.div_lt_of_lt_mul (by rw [Nat.mul_comm]; exact hjl)
          have h2:j % t.sz < t.sz := Nat.mod_lt _ t.pos
          have h3:j / t.sz * t.sz + j % t.sz=j := by rw [Nat.mul_comm]; exact Nat.div_add_mod j t.sz
          have h4 := zd1 t (ys.take m) (j / t.sz) (j % t.sz) (by rw [List.length_take]; omega) h2
          have h5:(ys.take m).getD (j / t.sz) t.dflt=ys.getD (j / t.sz) t.dflt := by simp [List.getD,h1]
          rw [h3,hj,h5] at h4
          have := hcells (j / t.sz) (j % t.sz) x (by omega) h2 h4.symm
          rw [h3] at this
          exact zf1 this)
        rw [zbr,List.length_take,Nat.min_eq_left hm] at hl
        simp [Builtin.firstCells,hl]
    have hmin:min ys.length xs.length≤ys.length := Nat.min_le_left _ _
    rcases zeo hs1 with ⟨rfl,rfl,hF⟩ | ⟨b0,cap0,cur,rfl,hc,hm,hs',ht,h2⟩
    · refine ⟨_,w,_,?_,?_,hk⟩
      · have := hfirst 0 (Nat.zero_le _)
        simp [execOp,resolve,invoke,builtin,hf.eval hx,hf.eval hy,Builtin.copy_,run_underlying hT,sizeOf,typeInfo,hi,Builtin.lenOf,hsz,this,goInt]
      · simpa [zfo] using hs1
    · have hfl := hfirst (min ys.length xs.length) hmin
      have hlen:(flat t (ys.take (min ys.length xs.length))).length=min ys.length xs.length * t.sz := by rw [zbr,List.length_take,Nat.min_eq_left hmin]
      have hle:min ys.length xs.length * t.sz≤xs.length * t.sz := Nat.mul_le_mul_right _ (Nat.min_le_right _ _)
      have hcs:xs.length * t.sz≤cap0 * t.sz := Nat.mul_le_mul_right _ hc
      have hst := run_storeCells_at P b0 0 t.T (flat t (ys.take (min ys.length xs.length))) 0 cur w h2.blk (by rw [hlen,hs']; omega) (zhk t _)
      simp only [Nat.add_zero,Nat.zero_add,List.take_zero,List.nil_append] at hst
      refine ⟨_,w.setRow b0 (flat t (ys.take (min ys.length xs.length)) ++ cur.toList.drop (flat t (ys.take (min ys.length xs.length))).length).toArray,_,?_,?_,hk⟩
      rotate_left
      · have h3 := h2.setRow (c' := (flat t (ys.take (min ys.length xs.length)) ++ cur.toList.drop (flat t (ys.take (min ys.length xs.length))).length).toArray)
        have h4 := zep (t:=t) (xs:=zfo xs ys) (b:=b0) (cap:=cap0) (by rw [zh7]; exact hc) hm (by
          simp only [List.size_toArray,List.length_append,List.length_drop,Array.length_toList,hlen,hs']; omega) (by
          rw [zh7,zfo,zdv, ← zln, ← ht,hlen]
          simp only []
          apply List.ext_getElem?
          intro j
          simp only [List.getElem?_take,List.getElem?_append,List.getElem?_drop,hlen]
          by_cases h1:j < min ys.length xs.length * t.sz
          · simp [h1,show j < xs.length * t.sz by omega]
          · by_cases h5:j < xs.length * t.sz
            · simp [h1,h5,show min ys.length xs.length * t.sz + (j - min ys.length xs.length * t.sz) < xs.length * t.sz by omega]
            · simp [h1,h5,show ¬ min ys.length xs.length * t.sz + (j - min ys.length xs.length * t.sz) < xs.length * t.sz by omega]) h3
        rw [zh7] at h4
        exact h4
      · simp [execOp,resolve,invoke,builtin,hf.eval hx,hf.eval hy,Builtin.copy_,run_underlying hT,sizeOf,typeInfo,hi,Builtin.lenOf,hsz,hfl,hst,goInt]) hd
theorem zea {x y:Operand} {T:TypeId} {k k':IntKind} {m:Nat} {a b:Int} {z:Value} {x0:α} (hx:ev s x=some (.int k a)) (hy:ev s y=some (.int k' b)) (ha:a=(m:Int)) (hb:b=(m:Int)) (hT:P.underlying T=some (.slice t.T))
    (hok:∃ i,P.info? t.T=some i∧i.zero=some z∧i.size=t.sz∧i.bytes=bytes) (hz:z.cells=(t.enc x0).toArray) (hm:m≤1000000000) (hby:bytes≤100000) (hd:Nat.blt d n.n=true)
    (hk:∀ b,K ((d,.slice (some ⟨b,0,none⟩) m m)::s) (sl t (.slice (some ⟨b,0,none⟩) m m) (List.replicate m x0)::H)):OJ P n W ⟨some d,.makeSlice T x y,ty,pos,after,g⟩ s H K :=
  zge (fun q w hf hs=>by
    obtain ⟨i,hi,hz',hsz,hb'⟩ := hok
    subst ha hb
    have hmm:bytes * m≤100000 * 1000000000 := Nat.mul_le_mul hby hm
    have hr := run_make (P:=P) w T t.T i z hT hi hz' k k' (m:Int) (m:Int) (by omega) (Int.le_refl _) (by
      have:((i.bytes * m:Nat):Int)≤281474976710656 := by rw [hb']; omega
      rwa [Int.natCast_mul] at this) (by omega)
    refine ⟨.slice (some ⟨w.heap.size,0,none⟩) m m,w.alloc (.cells (madeCells z.cells (m * i.size)) t.T),_,by simp [execOp,hf.eval hx,hf.eval hy,hr],?_,hk _⟩
    have h1 := hs.alloc (.cells (madeCells z.cells (m * i.size)) t.T)
    have h2 := zep (t:=t) (xs:=List.replicate m x0) (cap:=m) (by simp) (by simp only [maxLen]; omega) (by simp [size_madeCells,hsz]) (by
      have hzs:z.cells.size=t.sz := by rw [hz]; simp [t.len]
      rw [zf0,List.length_replicate]
      have e:(madeCells z.cells (m * i.size)).toList=(List.replicate m (t.enc x0)).flatten := by
        rw [hsz]
        clear hr h1 hk hs
        apply List.ext_getElem?
        intro j
        have hfl:(List.replicate m (t.enc x0)).flatten=flat t (List.replicate m x0) := (zf0 t x0 m).symm
        by_cases hj:j < m * t.sz
        · have hd1:j / t.sz < m := Nat.div_lt_of_lt_mul (by rw [Nat.mul_comm]; exact hj)
          have hm1:j % t.sz < t.sz := Nat.mod_lt _ t.pos
          have h3:j / t.sz * t.sz + j % t.sz=j := by rw [Nat.mul_comm]; exact Nat.div_add_mod j t.sz
          have h4 := zd1 t (List.replicate m x0) (j / t.sz) (j % t.sz) (by simpa using hd1) hm1
          rw [h3] at h4
          rw [hfl,h4]
          have hlk:j % t.sz < (t.enc x0).length := by rw [t.len]; exact hm1
          simp [madeCells,hj,hd1,hz,t.len,List.getD]
          rw [List.getElem?_eq_getElem hlk]; rfl
        · rw [List.getElem?_eq_none (by simp [size_madeCells]; omega),List.getElem?_eq_none (by rw [hfl,zbr]; simp; omega)]
      rw [e,List.take_of_length_le]
      rw [show (List.replicate m (t.enc x0)).flatten=flat t (List.replicate m x0) from (zf0 t x0 m).symm,zbr]
      simp) h1
    simpa using h2) hd
def sliceV (sz:Nat) (v:Value) (l h:Nat):Value := match v with
  | .slice a _ c => .slice (if c=l then a else a.map (·.add (l * sz))) (h - l) (c - l)
  | v=>v
theorem Reads.sliceV {l h:Nat} (hr:Reads A t v xs) (hlh:l≤h) (hh:h≤xs.length):Reads A t (sliceV t.sz v l h) ((xs.take h).drop l) := by
  intro hp hA
  rcases hr hp hA with ⟨rfl,rfl⟩ | ⟨a,cap,rfl,hc,hm,hsp,h4⟩
  · have:h=0 := by simpa using hh
    subst this
    have:l=0 := by omega
    subst this
    exact .inl ⟨rfl,rfl⟩
  · have hlen:((xs.take h).drop l).length=h - l := by simp; omega
    by_cases hcl:cap=l
    · have:h=l := by omega
      subst this
      refine .inr ⟨a,0,?_,by simp,by simp,fun h0 => ?_,fun i k u hi => ?_⟩
      · simp [VG.sliceV,hcl]
      · exfalso; rw [hlen] at h0; omega
      · exfalso; rw [hlen] at hi; omega
    · refine .inr ⟨a.add (l * t.sz),cap - l,?_,by rw [hlen]; omega,by omega,fun h0 => ?_,fun i k u hi hk hu => ?_⟩
      · simp [VG.sliceV,hcl,hlen]
      · rw [zcy _ _ (hsp (by rw [hlen] at h0; omega))]
      · rw [hlen] at hi
        rw [zcy _ _ (hsp (by omega))]
        have := h4 (l + i) k u (by omega) hk (by
          rw [← hu]
          congr 1
          simp [List.getD,List.getElem?_drop,show l + i < h by omega])
        simp only []
        rw [show a.off + l * t.sz + (i * t.sz + k)=a.off + ((l + i) * t.sz + k) by rw [Nat.add_mul]; omega]
        exact this
theorem zi8 {w:World} {k:IntKind} {i:Nat} {y:Nat} {code:BoundsCode} (h:i≤y):(Instr.sliceBound (.int k (i:Int)) y code).run P w = .ok i w := by
  simp [Instr.sliceBound,asIntOf,h]
theorem zmm {x:Operand} {lo hi:Option Operand} {T:TypeId} {l h:Nat} (hx:ev s x=some v) (hf':Foc H A C) (hr:Reads A t v xs)
    (hl:match lo with | none=>l=0 | some o => ∃ k,ev s o=some (.int k (l:Int))) (hh:match hi with | none=>h=xs.length | some o => ∃ k,ev s o=some (.int k (h:Int))) (hlh:l≤h) (hhx:h≤xs.length)
    (hT:P.underlying T=some (.slice t.T)) (hE:∀ w,(sizeOf t.T).run P w = .ok t.sz w):VJ P n W ⟨dst,.slice T x lo hi none,ty,pos,after,g⟩ s H (sliceV t.sz v l h) :=
  (fun q w hf hs=>by
    have key:∀ (a:Option Addr) (m c:Nat),m=xs.length→xs.length≤c→v = .slice a m c →
        (execOp q.eval ⟨dst,.slice T x lo hi none,ty,pos,after,g⟩).run P w = .ok (.value (sliceV t.sz v l h)) w := by
      intro a m c hm hc hv
      subst hv hm
      have hb:(Instr.sliceBounds true xs.length c (lo.map q.eval) (hi.map q.eval) none).run P w = .ok (l,h,c) w := by
        cases lo with
        | none =>
          cases hi with
          | none=>simp only at hl hh; subst hl hh; simp [Instr.sliceBounds]
          | some o =>
            simp only at hl hh; subst hl; obtain ⟨k,hk'⟩ := hh
            simp [Instr.sliceBounds,hf.eval hk',zi8 (P:=P) (w:=w) (k:=k) (show h≤c by omega)]
        | some o' =>
          obtain ⟨k',hk''⟩ := hl
          cases hi with
          | none =>
            simp only at hh; subst hh
            simp [Instr.sliceBounds,hf.eval hk'',zi8 (P:=P) (w:=w) (k:=k') hlh]
          | some o =>
            obtain ⟨k,hk'⟩ := hh
            simp [Instr.sliceBounds,hf.eval hk',hf.eval hk'',zi8 (P:=P) (w:=w) (k:=k) (show h≤c by omega),zi8 (P:=P) (w:=w) (k:=k') hlh]
      simp [execOp,hf.eval hx,Instr.sliceAt,Instr.slice,run_underlying hT,hb,hE,sliceV]
    rcases hr.at hf' hs with ⟨rfl,rfl⟩ | ⟨a,cap,rfl,hc,_,_,_⟩
    · exact key none 0 0 rfl (by simp) rfl
    · exact key _ _ _ rfl hc rfl)
end
end Go.VG
namespace Go.VG
def zcu (n m:Nat):Array Bool := (Array.range n).map fun j=>m.testBit j
theorem zlo (n m j:Nat) (d:Bool):(zcu n m).getD j d=if j < n then m.testBit j else d := by
  by_cases h:j < n <;> simp [zcu,h]
theorem zeq (n m i:Nat):(zcu n m).setIfInBounds i true=zcu n (m ||| 2 ^ i) := by
  apply Array.ext_getElem?
  intro j
  rw [Array.getElem?_setIfInBounds]
  by_cases hj:j < n
  · by_cases hij:i=j
    · subst hij; simp [zcu,hj,Nat.testBit_or]
    · have:Nat.testBit (2 ^ i) j=false := by rw [Nat.testBit_two_pow]; simp [hij]
      simp [zcu,hj,hij,Nat.testBit_or,this]
  · by_cases hij:i=j
    · subst hij; simp [zcu,hj]
    · simp [zcu,hj,hij]
section
variable {P:Program} {ops:Array Oper} {Q:Exit→Act→World→Prop} {S:World→Prop} {tl:Nat}
def zir (P:Program) (ops:Array Oper) (Q:Exit→Act→World→Prop) (S:World→Prop) (tl:Nat):Nat→Array Bool→Act→World→Prop
  | 0,listed,a,w=>Region.ready .any ops listed=[]∧Q .normal a w
  | fuel + 1,listed,a,w=>(Region.ready .any ops listed=[]→Q .normal a w) ∧
      ∀ i ∈ Region.ready .any ops listed,wpOp P ops Q i (fun a' w' => (tl.testBit i=false→S w→S w')∧zir P ops Q S tl fuel (listed.setIfInBounds i true) a' w') a w
theorem zkg:∀ (fuel:Nat) (listed:Array Bool) (a:Act) (w:World),zir P ops Q S tl fuel listed a w→wpAny P .any ops Q fuel listed a w
  | 0,_,_,_,h=>h
  | fuel + 1,_,_,_,h=>⟨h.1,fun i hi=>wpOp_mono (fun a' w' h' => zkg fuel _ a' w' h'.2) (h.2 i hi)⟩
def Closed (ops:Array Oper) (listed:Array Bool):Prop := ∀ j o,ops[j]? = some o→listed.getD j false=true → ∀ e ∈ o.after,Region.binds .any e=true→listed.getD e.on false=true
def waits (ops:Array Oper):Nat→Nat→Nat→Bool
  | 0,_,_=>false
  | f + 1,j,i=>match ops[j]? with
    | none=>false
    | some o=>o.after.any fun e=>Region.binds .any e && (e.on == i || waits ops f e.on i)
theorem znh {listed:Array Bool} (hc:Closed ops listed) {i:Nat} : ∀ (f j:Nat),(∀ o,ops[j]? = some o → ∀ e ∈ o.after,Region.binds .any e=true→listed.getD e.on false=true)→waits ops f j i=true→listed.getD i false=true
  | 0,_,_,h=>by simp [waits] at h
  | f + 1,j,hj,h=>by
    simp only [waits] at h
    cases ho:ops[j]? with
    | none=>simp [ho] at h
    | some o =>
      simp only [ho] at h
      obtain ⟨e,he,hb⟩ := Array.any_eq_true'.1 h
      simp only [Bool.and_eq_true,Bool.or_eq_true,beq_iff_eq] at hb
      have hl := hj o ho e he hb.1
      rcases hb.2 with rfl | hw
      · exact hl
      · exact znh hc f e.on (fun o' ho' e' he' hb' => hc e.on o' ho' hl e' he' hb') hw
theorem Closed.step {listed:Array Bool} (hc:Closed ops listed) {j:Nat} (hj:j ∈ Region.ready .any ops listed):Closed ops (listed.setIfInBounds j true) := by
  obtain ⟨_,oj,hoj,hall⟩ := mem_ready.1 hj
  intro k o hk hl e he hb
  by_cases hkj:j=k
  · subst hkj
    rw [hoj] at hk; cases hk
    exact getD_set_true (hall e he hb)
  · rw [getD_set_ne false hkj] at hl
    exact getD_set_true (hc k o hk hl e he hb)
theorem zni {i:Nat} {oj:Oper} {listed:Array Bool} (hall:∀ e ∈ oj.after,Region.binds .any e=true→listed.getD e.on false=true) (hr:i ∈ Region.ready .any ops listed) :
    ∀ e ∈ oj.after,Region.binds .any e=true→e.on≠i := fun e he hb heq=>by
  have h1 := hall e he hb
  have h0 := (mem_ready.1 hr).1
  rw [heq] at h1
  rcases Nat.lt_or_ge i listed.size with h' | h'
  · simp [h'] at h0 h1; rw [h0] at h1; cases h1
  · simp [Array.getElem?_eq_none h'] at h1
theorem zpl {i:Nat} {listed:Array Bool} (hr:i ∈ Region.ready .any ops listed):listed.getD i false=false := by
  have h0 := (mem_ready.1 hr).1
  rcases Nat.lt_or_ge i listed.size with h' | h'
  · simp [h'] at h0 ⊢; exact h0
  · simp [Array.getElem?_eq_none h']
theorem zro {i:Nat} {oi:Oper} {v:Value} (hi:ops[i]? = some oi) (hsel:∀ (j:Nat) (o:Oper) cs b,ops[j]? = some o→o.op ≠ .select cs b)
    (hQ:∀ c a w,Q (.panic c) (a.put oi.dst v) w→Q (.panic c) a w) {f:Nat} (hw:∀ j,tl.testBit j=true→waits ops f j i=true) :
    ∀ (fuel:Nat) (listed:Array Bool) (a:Act) (w:World),Closed ops listed →
      (∀ j oj,ops[j]? = some oj→j≠i→listed.getD j true=false→(∀ e ∈ oj.after,Region.binds .any e=true→e.on≠i)→oi.apart ops oj=true) →
      i ∈ Region.ready .any ops listed→YieldsIf P ops S oi v a→S w →
      zir P ops Q S tl fuel (listed.setIfInBounds i true) (a.put oi.dst v) w→zir P ops Q S tl (fuel + 1) listed a w := by
  intro fuel
  induction fuel with
  | zero =>
    intro listed a w _ _ hr hy hS H
    refine ⟨fun h=>(by rw [h] at hr; cases hr),fun j hj => ?_⟩
    by_cases hji:j=i
    · subst hji; exact hy.wpOp hi hS ⟨fun _ h=>h,H⟩
    · have := ready_mono hj hji
      rw [H.1] at this
      cases this
  | succ fuel ih =>
    intro listed a w hcl hfree hr hy hS H
    refine ⟨fun h=>(by rw [h] at hr; cases hr),fun j hj => ?_⟩
    by_cases hji:j=i
    · subst hji; exact hy.wpOp hi hS ⟨fun _ h=>h,H⟩
    · have h1 := H.2 j (ready_mono hj hji)
      obtain ⟨hjun,oj,hoj,hall⟩ := mem_ready.1 hj
      have hnt:tl.testBit j=false := by
        cases ht:tl.testBit j with
        | false=>rfl
        | true =>
          have := znh hcl f j (fun o ho e he hb=>by rw [hoj] at ho; cases ho; exact hall e he hb) (hw j ht)
          rw [zpl hr] at this; cases this
      have h2 := wpOp_putIf hoj (hfree j oj hoj hji hjun (zni hall hr)) (fun cs b=>hsel i oi cs b hi) (fun cs b=>hsel j oj cs b hoj) hQ hy h1
      have hfree':∀ k ok,ops[k]? = some ok→k≠i→(listed.setIfInBounds j true).getD k true=false →
          (∀ e ∈ ok.after,Region.binds .any e=true→e.on≠i)→oi.apart ops ok=true := fun k ok hk hki hun hno=>by
        refine hfree k ok hk hki ?_ hno
        by_cases hjk:j=k
        · subst hjk; exact hjun
        · rw [getD_set_ne true hjk] at hun; exact hun
      refine wpOp_mono (fun a' w' h3=>⟨h3.2.1,ih (listed.setIfInBounds j true) a' w' (hcl.step hj) hfree' (ready_mono hr (Ne.symm hji)) h3.1 (h3.2.1 hnt hS) ?_⟩) h2
      rw [Array.setIfInBounds_comm _ _ hji]
      exact h3.2.2
theorem zk9 {i:Nat} {oi:Oper} {v:Value} (hi:ops[i]? = some oi) (hsel:∀ (j:Nat) (o:Oper) cs b,ops[j]? = some o→o.op ≠ .select cs b)
    (hQ:∀ c a w,Q (.panic c) (a.put oi.dst v) w→Q (.panic c) a w) :
    ∀ (fuel:Nat) (listed:Array Bool) (a:Act) (w:World),
      (∀ j oj,ops[j]? = some oj→j≠i→listed.getD j true=false→(∀ e ∈ oj.after,Region.binds .any e=true→e.on≠i)→oi.apart ops oj=true) →
      i ∈ Region.ready .any ops listed→Yields P ops oi v a →
      zir P ops Q S tl fuel (listed.setIfInBounds i true) (a.put oi.dst v) w→zir P ops Q S tl (fuel + 1) listed a w := by
  intro fuel
  induction fuel with
  | zero =>
    intro listed a w _ hr hy H
    refine ⟨fun h=>(by rw [h] at hr; cases hr),fun j hj => ?_⟩
    by_cases hji:j=i
    · subst hji; exact hy.wpOp hi ⟨fun _ h=>h,H⟩
    · have := ready_mono hj hji
      rw [H.1] at this
      cases this
  | succ fuel ih =>
    intro listed a w hfree hr hy H
    refine ⟨fun h=>(by rw [h] at hr; cases hr),fun j hj => ?_⟩
    by_cases hji:j=i
    · subst hji; exact hy.wpOp hi ⟨fun _ h=>h,H⟩
    · have h1 := H.2 j (ready_mono hj hji)
      obtain ⟨hjun,oj,hoj,hall⟩ := mem_ready.1 hj
      have h2 := wpOp_put hoj (hfree j oj hoj hji hjun (zni hall hr)) (fun cs b=>hsel i oi cs b hi) (fun cs b=>hsel j oj cs b hoj) hQ hy h1
      have hfree':∀ k ok,ops[k]? = some ok→k≠i→(listed.setIfInBounds j true).getD k true=false →
          (∀ e ∈ ok.after,Region.binds .any e=true→e.on≠i)→oi.apart ops ok=true := fun k ok hk hki hun hno=>by
        refine hfree k ok hk hki ?_ hno
        by_cases hjk:j=k
        · subst hjk; exact hjun
        · rw [getD_set_ne true hjk] at hun; exact hun
      refine wpOp_mono (fun a' w' h3=>⟨h3.2.1,ih (listed.setIfInBounds j true) a' w' hfree' (ready_mono hr (Ne.symm hji)) h3.1 ?_⟩) h2
      rw [Array.setIfInBounds_comm _ _ hji]
      exact h3.2.2
end
def zfp (ops:Array Oper) (m i:Nat):Bool := Region.noSelect ops && Region.free .any ops (zcu ops.size m) i && (Region.ready .any ops (zcu ops.size m)).contains i
def zlp (ops:Array Oper) (tl i:Nat):Bool := (List.range ops.size).all (fun j => !tl.testBit j || waits ops ops.size j i) && Nat.blt tl (2 ^ ops.size)
theorem zti {ops:Array Oper} {tl i:Nat} (h:zlp ops tl i=true):∀ j,tl.testBit j=true→waits ops ops.size j i=true := by
  intro j hj
  simp only [zlp,Bool.and_eq_true,List.all_eq_true,List.mem_range] at h
  rcases Nat.lt_or_ge j ops.size with hlt | hge
  · have := h.1 j hlt
    simpa [hj] using this
  · have h2:tl < 2 ^ ops.size := by simpa using h.2
    have:tl.testBit j=false := Nat.testBit_lt_two_pow (Nat.lt_of_lt_of_le h2 (Nat.pow_le_pow_right (by omega) hge))
    rw [this] at hj; cases hj
def zgi (ops:Array Oper) (m:Nat) (rs:List Nat):Bool := Region.ready .any ops (zcu ops.size m) == rs
def zmn (ops:Array Oper) (m:Nat):Bool := (List.range ops.size).all fun j => !m.testBit j || match ops[j]? with
  | none=>true
  | some o=>o.after.all fun e => !Region.binds .any e || (Nat.blt e.on ops.size && m.testBit e.on)
theorem zrp {ops:Array Oper} {m:Nat} (h:zmn ops m=true):Closed ops (zcu ops.size m) := by
  intro j o ho hl e he hb
  have hlt:j < ops.size := (Array.getElem?_eq_some_iff.1 ho).1
  rw [zlo,if_pos hlt] at hl
  have := (List.all_eq_true.1 h) j (List.mem_range.2 hlt)
  simp only [hl,ho,Bool.not_true,Bool.false_or,Array.all_eq_true_iff_forall_mem] at this
  have h1 := this e he
  simp only [hb,Bool.not_true,Bool.false_or,Bool.and_eq_true] at h1
  rw [zlo,if_pos (by simpa using h1.1)]
  exact h1.2
section
variable {P:Program} {n:Env} {W:World} {l:List Oper} {Q:Exit→Act→World→Prop} {Hr:List HP} {tl:Nat} {s:Slots} {H:List HP} {fuel m m':Nat}
def noP (Q:Exit→Act→World→Prop):Exit→Act→World→Prop
  | .panic _,_,_=>False
  | e,a,w=>Q e a w
theorem zvn:∀ e a w,noP Q e a w→Q e a w := fun e a w h=>by
  cases e <;> first | exact h | exact h.elim
def AJ (P:Program) (n:Env) (W:World) (l:List Oper) (Q:Exit→Act→World→Prop) (Hr:List HP) (tl fuel m:Nat) (s:Slots) (H:List HP):Prop :=
  ∀ a w,Fits n s a→St W w H→zir P l.toArray (noP Q) (fun w=>St W w Hr) tl fuel (zcu l.toArray.size m) a w
theorem zla (k:Nat):zcu k 0=Array.replicate k false := by
  apply Array.ext_getElem?
  intro j
  by_cases hj:j < k <;> simp [zcu,hj]
def noDef (l:List Oper):Bool := l.all fun o=>match o.op with
  | .defer _=>false
  | _=>true
theorem zvo {l:List Oper} (h:noDef l=true) {i:Nat} {o:Oper} (hi:l.toArray[i]? = some o):∀ c,o.op ≠ .defer c := fun c hc=>by
  have h1:l[i]? = some o := by simpa using hi
  have h2 := List.all_eq_true.1 h o (List.mem_of_getElem? h1)
  simp [hc] at h2
def ztu (r:Option Nat) (l:List Oper) (Q:Exit→Act→World→Prop):Prop := r=none∨(noDef l=true ∧ ¬ LetsOut Q)
theorem zig {r:Option Nat} (hnd:noDef l=true) (hq:¬ LetsOut Q):∀ (fuel:Nat) (listed:Array Bool) (a:Act) (w:World),wpAny P .any l.toArray Q fuel listed a w→wpAnyIn (fw r) 0 P .any l.toArray Q fuel listed a w
  | 0,_,_,_,h=>h
  | fuel + 1,listed,a,w,h=>by
    refine ⟨h.1,fun i hi => ?_⟩
    have h1 := h.2 i hi
    unfold wpOp at h1
    unfold wpOpIn
    split at h1
    · rename_i ho; simp only [ho]; exact zig hnd hq fuel _ a w h1
    · rename_i o ho
      simp only [ho]
      split at h1
      · rename_i hw
        rw [if_pos hw]
        rcases h1 with h1 | h1
        · exact Oper.wpIn_mono (fun a w=>zig hnd hq fuel _ a w) (znr ⟨h1,zvo hnd ho⟩)
        · exact absurd h1.2 hq
      · rename_i hw
        rw [if_neg hw]
        exact ⟨fun _ _=>trivial,zig hnd hq fuel _ _ w h1⟩
theorem zkh {id:Nat} (Hr:List HP) (tl:Nat) {k:Nat} (hm:P.follows .mixedOrders=true) (hk:l.length=k) (h:AJ P n W l Q Hr tl k 0 s H) (hnr:ztu n.r l Q := by first | exact .inl rfl | exact .inr ⟨rfl,fun ⟨_,_,h⟩=>h⟩):CJ P n W Q (.region id l.toArray true) s H := by
  intro a w hf hs
  show (Code.region id l.toArray true).wpIn (fw n.r) 0 P Q a w
  rcases hnr with hnr | ⟨hnd,hq⟩
  rotate_left
  · have h1 := h a { w with drawn := w.drawn + 1 } hf (hs.drawn _)
    rw [zla] at h1
    subst hk
    refine wpIn_mono (Q' := Q) ?_ (zvn (Q:=Q))
    exact wpIn_region_any hm (zig hnd (show ¬ LetsOut (noP Q) from fun ⟨a,w,h⟩=>hq ⟨a,w,h⟩) _ _ _ _ (zkg _ _ _ _ h1))
  rw [hnr]
  have h1 := h a { w with drawn := w.drawn + 1 } hf (hs.drawn _)
  rw [zla] at h1
  subst hk
  exact (wpIn_wide (n:=0)).2 (Code.wp_mono (zvn (Q:=Q)) (wp_region_any hm (zkg _ _ _ _ h1)))
theorem za3 {id:Nat} (tl:Nat) {k:Nat} (hm:P.follows .mixedOrders=true) (hk:l.length=k) (h:AJ P n W l Q H tl k 0 s H) (hnr:ztu n.r l Q := by first | exact .inl rfl | exact .inr ⟨rfl,fun ⟨_,_,h⟩=>h⟩):CJ P n W Q (.region id l.toArray true) s H := zkh H tl hm hk h hnr
theorem bv {a b:Bool} (h:a=b):Value.bool a = .bool b := by rw [h]
def GY (ops:Array Oper) (s:Slots) (o:Oper) (b:Bool):Prop := ∀ n a,Fits n s a→Region.wanted o (yielded ops a.tmps)=b
theorem zal {ops:Array Oper} {o:Oper} (hg:o.guard=none):GY ops s o true := fun _ _ _=>by simp [Region.wanted,hg]
theorem zaz {ops:Array Oper} {o:Oper} {j d:Nat} {want t:Bool} (hg:o.guard=some (j,want)) (hd:(ops[j]?).bind (·.dst)=some d) (hl:look s d=some (.bool t)) (ht:t=want):GY ops s o true :=
  fun _ _ hf=>by simp [Region.wanted,hg,zoh hf hd hl,ht]
theorem GY_no {ops:Array Oper} {o:Oper} {j d:Nat} {want t:Bool} (hg:o.guard=some (j,want)) (hd:(ops[j]?).bind (·.dst)=some d) (hl:look s d=some (.bool t)) (ht:t = !want):GY ops s o false :=
  fun _ _ hf=>by subst ht; cases want <;> simp [Region.wanted,hg,zoh hf hd hl]
theorem zns {ops:Array Oper} {o:Oper} {j d:Nat} {want:Bool} (hg:o.guard=some (j,want)) (hd:(ops[j]?).bind (·.dst)=some d) (hl:look s d=some undef):GY ops s o false :=
  fun _ _ hf=>by simp [Region.wanted,hg,zq9 hf hd hl]
theorem RJ_gy {ops:Array Oper} {o:Oper} {rest:List Oper} (hg:GY ops s o true) (h:OJ P n W o s H fun s' H' => RJ P n W ops Q rest s' H'):RJ P n W ops Q (o::rest) s H := by
  intro a w hf hs
  refine wpListIn_step fun K hK => ?_
  rw [if_pos (hg n a hf)]
  exact znr (h a w hf hs K Q fun _ _ a' w' hk hf' hs' => hK a' w' (hk a' w' hf' hs'))
theorem RJ_gn {ops:Array Oper} {o:Oper} {rest:List Oper} {e:Nat} (hg:GY ops s o false) (hdst:o.dst=some e) (he:Nat.blt e n.n=true) (h:RJ P n W ops Q rest ((e,undef)::s) H):RJ P n W ops Q (o::rest) s H := by
  intro a w hf hs
  refine wpSkip (hg n a hf) ?_
  rw [hdst]
  exact h _ w (hf.put he undef) hs
theorem zhl {d:Nat} {op:Op} {ty:TypeId} {pos:String} {after:Array Edge} {g:Option (Nat × Bool)} {v:Value} (i:Nat) (m':Nat) (hi:l[i]? = some ⟨some d,op,ty,pos,after,g⟩) (hok:zfp l.toArray m i=true) (hm':m ||| 2 ^ i=m')
    (hg:GY l.toArray s ⟨some d,op,ty,pos,after,g⟩ true) (hp:PJ P n ⟨some d,op,ty,pos,after,g⟩ s v) (hd:Nat.blt d n.n=true) (hQ:∀ c a v w,noP Q (.panic c) (a.put (some d) v) w→noP Q (.panic c) a w)
    (h:AJ P n W l Q Hr tl fuel m' ((d,v)::s) H):AJ P n W l Q Hr tl (fuel + 1) m s H := by
  intro a w hf hs
  simp only [zfp,Bool.and_eq_true] at hok
  have hi':l.toArray[i]? = some ⟨some d,op,ty,pos,after,g⟩ := by simpa using hi
  refine zk9 hi' (Region.noSelect_spec hok.1.1) (fun c a w=>hQ c a v w) fuel _ a w (Region.free_spec hi' hok.1.2) (by simpa using hok.2) (.inl ⟨hg n a hf,fun w=>hp a w hf⟩) ?_
  rw [zeq,hm']
  exact h _ w (hf.put hd v) hs
theorem zz4 {d:Nat} {op:Op} {ty:TypeId} {pos:String} {after:Array Edge} {g:Option (Nat × Bool)} (i:Nat) (m':Nat) (hi:l[i]? = some ⟨some d,op,ty,pos,after,g⟩) (hok:zfp l.toArray m i=true) (hm':m ||| 2 ^ i=m')
    (hg:GY l.toArray s ⟨some d,op,ty,pos,after,g⟩ false) (hd:Nat.blt d n.n=true) (hQ:∀ c a v w,noP Q (.panic c) (a.put (some d) v) w→noP Q (.panic c) a w)
    (h:AJ P n W l Q Hr tl fuel m' ((d,undef)::s) H):AJ P n W l Q Hr tl (fuel + 1) m s H := by
  intro a w hf hs
  simp only [zfp,Bool.and_eq_true] at hok
  have hi':l.toArray[i]? = some ⟨some d,op,ty,pos,after,g⟩ := by simpa using hi
  refine zk9 hi' (Region.noSelect_spec hok.1.1) (fun c a w=>hQ c a undef w) fuel _ a w (Region.free_spec hi' hok.1.2) (by simpa using hok.2) (.inr ⟨hg n a hf,rfl⟩) ?_
  rw [zeq,hm']
  exact h _ w (hf.put hd undef) hs
theorem zbj {d:Nat} {op:Op} {ty:TypeId} {pos:String} {after:Array Edge} {g:Option (Nat × Bool)} {v:Value} (i:Nat) (m':Nat) (hi:l[i]? = some ⟨some d,op,ty,pos,after,g⟩) (hok:zfp l.toArray m i=true) (hm':m ||| 2 ^ i=m')
    (hcl:zmn l.toArray m=true) (hlast:zlp l.toArray tl i=true) (hg:GY l.toArray s ⟨some d,op,ty,pos,after,g⟩ true) (he:Ent H Hr) (hp:VJ P n W ⟨some d,op,ty,pos,after,g⟩ s Hr v) (hd:Nat.blt d n.n=true)
    (hQ:∀ c a v w,noP Q (.panic c) (a.put (some d) v) w→noP Q (.panic c) a w) (h:AJ P n W l Q Hr tl fuel m' ((d,v)::s) H):AJ P n W l Q Hr tl (fuel + 1) m s H := by
  intro a w hf hs
  simp only [zfp,Bool.and_eq_true] at hok
  have hi':l.toArray[i]? = some ⟨some d,op,ty,pos,after,g⟩ := by simpa using hi
  refine zro hi' (Region.noSelect_spec hok.1.1) (fun c a w=>hQ c a v w) (zti hlast) fuel _ a w (zrp hcl) (Region.free_spec hi' hok.1.2) (by simpa using hok.2) (.inl ⟨hg n a hf,fun w hw=>hp a w hf hw⟩) (hs.imp he) ?_
  rw [zeq,hm']
  exact h _ w (hf.put hd v) hs
theorem zki {o:Oper} {i:Nat} {K:Slots→List HP→Prop} {next:Act→World→Prop} {a:Act} {w:World} (hi:l[i]? = some o) (hg:GY l.toArray s o true) (h:OJ P n W o s H K) (hf:Fits n s a) (hs:St W w H)
    (hn:∀ s' H' a' w',K s' H' → Fits n s' a' → St W w' H' → next a' w'):wpOp P l.toArray Q i next a w := by
  have hi':l.toArray[i]? = some o := by simpa using hi
  unfold wpOp
  simp only [hi',hg n a hf,if_true]
  exact .inl (h a w hf hs next Q hn).1
theorem AJ_op {o:Oper} (i:Nat) (m':Nat) (hi:l[i]? = some o) (hr:zgi l.toArray m [i]=true) (hm':m ||| 2 ^ i=m') (hg:GY l.toArray s o true)
    (h:OJ P n W o s H fun s' H' => (tl.testBit i=false→Ent H' Hr)∧AJ P n W l Q Hr tl fuel m' s' H'):AJ P n W l Q Hr tl (fuel + 1) m s H := by
  intro a w hf hs
  have hr':Region.ready .any l.toArray (zcu l.toArray.size m)=[i] := by simpa [zgi] using hr
  refine ⟨fun h0=>(by rw [hr'] at h0; cases h0),fun j hj => ?_⟩
  rw [hr'] at hj
  have:j=i := by simpa using hj
  subst this
  rw [zeq,hm']
  exact zki hi hg h hf hs fun s' H' a' w' hk hf' hs' => ⟨fun ht _=>hs'.imp (hk.1 ht),hk.2 a' w' hf' hs'⟩
theorem zg4 {o o':Oper} (i i':Nat) (m' m'':Nat) (hi:l[i]? = some o) (hi':l[i']? = some o') (hr:zgi l.toArray m [i,i']=true) (hm':m ||| 2 ^ i=m') (hm'':m ||| 2 ^ i' = m'') (hg:GY l.toArray s o true) (hg':GY l.toArray s o' true)
    (h:OJ P n W o s H fun s' H' => (tl.testBit i=false→Ent H' Hr)∧AJ P n W l Q Hr tl fuel m' s' H')
    (h':OJ P n W o' s H fun s' H' => (tl.testBit i' = false→Ent H' Hr)∧AJ P n W l Q Hr tl fuel m'' s' H'):AJ P n W l Q Hr tl (fuel + 1) m s H := by
  intro a w hf hs
  have hr':Region.ready .any l.toArray (zcu l.toArray.size m)=[i,i'] := by simpa [zgi] using hr
  refine ⟨fun h0=>(by rw [hr'] at h0; cases h0),fun j hj => ?_⟩
  rw [hr'] at hj
  simp only [List.mem_cons,List.not_mem_nil,or_false] at hj
  rcases hj with rfl | rfl
  · rw [zeq,hm']
    exact zki hi hg h hf hs fun s' H' a' w' hk hf' hs' => ⟨fun ht _=>hs'.imp (hk.1 ht),hk.2 a' w' hf' hs'⟩
  · rw [zeq,hm'']
    exact zki hi' hg' h' hf hs fun s' H' a' w' hk hf' hs' => ⟨fun ht _=>hs'.imp (hk.1 ht),hk.2 a' w' hf' hs'⟩
theorem zcf (hr:zgi l.toArray m []=true) (h:QJ n W Q .normal s H):AJ P n W l Q Hr tl fuel m s H := by
  intro a w hf hs
  have hr':Region.ready .any l.toArray (zcu l.toArray.size m)=[] := by simpa [zgi] using hr
  cases fuel with
  | zero=>exact ⟨hr',h a w hf hs⟩
  | succ k=>exact ⟨fun _=>h a w hf hs,by rw [hr']; simp⟩
theorem zi9 (d:Nat) {p:Prop} [Decidable p] (_hl:look s d=some (.bool (decide p)))
    (hT:decide p=true→p→AJ P n W l Q Hr tl fuel m s H) (hF:decide p=false → ¬ p→AJ P n W l Q Hr tl fuel m s H):AJ P n W l Q Hr tl fuel m s H := by
  by_cases h:p
  · exact hT (decide_eq_true h) h
  · exact hF (decide_eq_false h) h
theorem zja (d:Nat) {p:Prop} [Decidable p] (_hl:look s d=some (.bool (!decide p)))
    (hT:(!decide p)=true → ¬ p→AJ P n W l Q Hr tl fuel m s H) (hF:(!decide p)=false→p→AJ P n W l Q Hr tl fuel m s H):AJ P n W l Q Hr tl fuel m s H := by
  by_cases h:p
  · exact hF (by simp [h]) h
  · exact hT (by simp [h]) h
theorem zd5 (d:Nat) {t:Bool} (b:Bool) (_hl:look s d=some (.bool t)) (ht:t=b) (h:t=b→AJ P n W l Q Hr tl fuel m s H):AJ P n W l Q Hr tl fuel m s H := h ht
theorem zkj (d:Nat) {t:Bool} (_hl:look s d=some (.bool t))
    (hT:t=true→AJ P n W l Q Hr tl fuel m s H) (hF:t=false→AJ P n W l Q Hr tl fuel m s H):AJ P n W l Q Hr tl fuel m s H := by
  cases t
  · exact hF rfl
  · exact hT rfl
end
end Go.VG
namespace Go.VG
open Go.RowKit
def old (W:World):HP := fun h=>h=hp W
theorem St.start (W:World):St W W [old W] := ⟨rfl,rfl,rfl,fun _=>false,hp W,fun _=>none,fun _ => .inr (.inl rfl),by funext k; simp [PH.uni,hp],rfl,trivial⟩
theorem zkk {w:World} {a:Addr} {u:Value} (h:w.cell? a=some u):a.spot=none∧zc9 (hp w) a.block a.off=some u := by
  unfold World.cell? at h
  unfold zc9 hp hpg
  split at h
  · rename_i c T fr hb
    rw [hb]
    cases hs:a.spot with
    | none=>simpa [hs] using h
    | some x=>simp [hs] at h
  · cases h
theorem Reads.old {α:Type} {t:Ty α} {w:World} {a:Option Addr} {len cap:Nat} {xs:List α} (h:(a=none∧len=0∧cap=0∧xs=[]) ∨
    ∃ x,a=some x∧xs.length=len∧len≤cap∧cap≤maxLen ∧ ∀ i k u,i < xs.length→k < t.sz→(t.enc (xs.getD i t.dflt))[k]? = some u→w.cell? (x.add (i * t.sz + k))=some u) :
    Reads (old w) t (.slice a len cap) xs := by
  rintro hh rfl
  rcases h with ⟨rfl,rfl,rfl,rfl⟩ | ⟨x,rfl,rfl,hc,hm,hcell⟩
  · exact .inl ⟨rfl,rfl⟩
  · have hsp:0 < xs.length→x.spot=none := by
      intro h0
      have hk:0 < (t.enc (xs.getD 0 t.dflt)).length := by rw [t.len]; exact t.pos
      have := hcell 0 0 _ h0 t.pos (List.getElem?_eq_getElem hk)
      rw [Nat.zero_mul,Nat.zero_add] at this
      have h1 := (zkk this).1
      simpa [Addr.add] using h1
    refine .inr ⟨x,cap,rfl,hc,hm,hsp,fun i k u hi hk hu => ?_⟩
    have := (zkk (hcell i k u hi hk hu)).2
    rw [zcy _ _ (hsp (by omega))] at this
    exact this
end Go.VG
namespace Go.VG
theorem zpm {P:Program} {t:TypeId} {k:IntKind} (hu:P.underlying t=some (.int k)) (e:Bool) (x:Int) (w:World) (n:Nat):(Instr.checkKey e (n + 1) t (.int k x)).run P w = .ok () w := by
  simp [Instr.checkKey,run_underlying hu]
theorem zxn {P:Program} {t:TypeId} {f1 f2:Field} (hu:P.underlying t=some (.struct #[f1,f2])) (h1:P.underlying f1.type=some (.int .i64)) (h2:P.underlying f2.type=some (.int .i64))
    (a1:∀ w,(isAgg f1.type).run P w = .ok false w) (a2:∀ w,(isAgg f2.type).run P w = .ok false w) (o1:f1.offset=0) (o2:f2.offset=1)
    (e:Bool) (a b:Int) (w:World) (n:Nat):(Instr.checkKey e (n + 1 + 1) t (.agg #[.int .i64 a,.int .i64 b])).run P w = .ok () w := by
  have g1 := fun x=>zpm h1 e x w n
  have g2 := fun x=>zpm h2 e x w n
  rw [Instr.checkKey]
  simp only [Sem.run_bind,run_underlying hu,Result.andThen_ok]
  simp [part,a1,a2,o1,o2,g1,g2]
theorem zz5 {P:Program} {t:TypeId} {f1 f2:Field} (hu:P.underlying t=some (.struct #[f1,f2])) (hp:P.stoodInHeld t=false) (h1:P.underlying f1.type=some (.int .i64)) (h2:P.underlying f2.type=some (.int .i64))
    (a1 : ∀ w, (isAgg f1.type).run P w = .ok false w) (a2 : ∀ w, (isAgg f2.type).run P w = .ok false w) (o1 : f1.offset = 0) (o2 : f2.offset = 1) (n1 : f1.name ≠ "_") (n2 : f2.name ≠ "_")
    (a b c d:Int) (w:World):(Op.equal t (.agg #[.int .i64 a,.int .i64 b]) (.agg #[.int .i64 c,.int .i64 d])).run P w = .ok (decide (a=c) && decide (b=d)) w := by
  have hf:P.fieldsOf t = #[f1,f2] := by simp [Program.fieldsOf,hu]
  have h0 := run_equalIn_agg (P:=P) w 9999 t #[.int .i64 a,.int .i64 b] #[.int .i64 c,.int .i64 d] (by rw [hf]; exact hu) hp
  have e:Op.equal t (.agg #[.int .i64 a,.int .i64 b]) (.agg #[.int .i64 c,.int .i64 d])=Op.equalIn (9999 + 1) t (.agg #[.int .i64 a,.int .i64 b]) (.agg #[.int .i64 c,.int .i64 d]) := rfl
  have g1 := fun (x y:Int)=>run_equalIn_int (P:=P) w 9998 f1.type .i64 .i64 x y h1
  have g2 := fun (x y:Int)=>run_equalIn_int (P:=P) w 9998 f2.type .i64 .i64 x y h2
  rw [e,h0,hf]
  simp [Op.eqFields,part,a1,a2,o1,o2,g1,g2,n1,n2]
  by_cases h3:a=c <;> by_cases h4:b=d <;> simp [h3,h4]
structure MTy (κ ν:Type) where
  KT:TypeId
  VT:TypeId
  ek:κ→Value
  ev:ν→Value
structure MOk (P:Program) {κ ν:Type} [DecidableEq κ] (M:MTy κ ν) (T:TypeId):Prop where
  ty:P.underlying T=some (.map M.KT M.VT)
  eq:∀ a b w,(Op.equal M.KT (M.ek a) (M.ek b)).run P w = .ok (decide (a=b)) w
  chk:∀ e a w,(Instr.checkKey e 10000 M.KT (M.ek a)).run P w = .ok () w
  same:∀ a,Instr.sameBits 10000 (M.ek a) (M.ek a)=true
  kd:∃ d,P.underlying M.KT=some d∧((∀ a b,Instr.sameNow d (M.ek a) (M.ek b)=none)∨(∀ a b,Instr.sameNow d (M.ek a) (M.ek b)=some (decide (a=b))))
set_option linter.unusedSectionVars false
section
variable {κ ν:Type} [DecidableEq κ]
def findE:List (κ × ν)→κ→Nat→Option (Nat × ν)
  | [],_,_=>none
  | (a,v)::r,k,i=>if k=a then some (i,v) else findE r k (i + 1)
def lookM:List (κ × ν)→κ→Option ν
  | [],_=>none
  | (a,v)::r,k=>if k=a then some v else lookM r k
def setM (l:List (κ × ν)) (k:κ) (v:ν):List (κ × ν) := match findE l k 0 with
  | some (i,_)=>l.set i (k,v)
  | none=>l ++ [(k,v)]
def delM (l:List (κ × ν)) (k:κ):List (κ × ν) := match findE l k 0 with
  | some (i,_)=>l.eraseIdx i
  | none=>l
theorem zkl:∀ (l:List (κ × ν)) (k:κ) (i:Nat),(findE l k i).map (·.2)=lookM l k
  | [],_,_=>rfl
  | (a,v)::r,k,i=>by
    simp only [findE,lookM]
    split
    · rfl
    · exact zkl r k (i + 1)
theorem zih:∀ (l:List (κ × ν)) (k:κ) (i j:Nat) (v:ν),findE l k i=some (j,v)→i≤j∧l[j - i]? = some (k,v)
  | [],_,_,_,_,h=>by simp [findE] at h
  | (a,u)::r,k,i,j,v,h=>by
    simp only [findE] at h
    split at h
    · rename_i hk
      simp at h; obtain ⟨rfl,rfl⟩ := h; subst hk
      exact ⟨Nat.le_refl _,by simp⟩
    · obtain ⟨h1,h2⟩ := zih r k (i + 1) j v h
      refine ⟨by omega,?_⟩
      rw [show j - i=(j - (i + 1)) + 1 by omega]
      simpa using h2
theorem zoj:∀ (l:List (κ × ν)) (k:κ) (i:Nat),findE l k i=none → ∀ p ∈ l,p.1≠k
  | [],_,_,_,p,hp=>by cases hp
  | (a,u)::r,k,i,h,p,hp=>by
    simp only [findE] at h
    split at h
    · cases h
    · rename_i hk
      rcases List.mem_cons.1 hp with rfl | hp
      · exact fun e=>hk e.symm
      · exact zoj r k (i + 1) h p hp
theorem zlq:∀ (a b:List (κ × ν)) (k:κ),lookM (a ++ b) k=(lookM a k).or (lookM b k)
  | [],_,_=>by simp [lookM]
  | (x,v)::r,b,k=>by
    simp only [List.cons_append,lookM]
    split
    · rfl
    · exact zlq r b k
theorem zle (l:List (κ × ν)) (k:κ) (h:findE l k 0=none):lookM l k=none := by rw [← zkl l k 0,h]; rfl
theorem zqn:∀ (l:List (κ × ν)) (k k':κ) (v:ν) (i j:Nat) (u:ν),findE l k i=some (j,u)→lookM (l.set (j - i) (k,v)) k' = if k' = k then some v else lookM l k'
  | [],_,_,_,_,_,_,h=>by simp [findE] at h
  | (a,w)::r,k,k',v,i,j,u,h=>by
    simp only [findE] at h
    split at h
    · rename_i hk
      simp at h; obtain ⟨rfl,rfl⟩ := h; subst hk
      simp only [Nat.sub_self,List.set_cons_zero,lookM]
      split <;> rfl
    · rename_i hk
      have hle := (zih r k (i + 1) j u h).1
      rw [show j - i=(j - (i + 1)) + 1 by omega,List.set_cons_succ]
      simp only [lookM]
      rw [zqn r k k' v (i + 1) j u h]
      by_cases h1:k' = a
      · subst h1; have h2:¬ k' = k := fun e=>hk e.symm
        simp [h2]
      · simp [h1]
theorem zux (l:List (κ × ν)) (k k':κ) (v:ν):lookM (setM l k v) k' = if k' = k then some v else lookM l k' := by
  unfold setM
  split
  · rename_i i u h
    exact zqn l k k' v 0 i u h
  · rename_i h
    rw [zlq]
    by_cases hk:k' = k
    · subst hk; simp [zle l k' h,lookM]
    · simp [lookM,hk]
theorem zuy (l:List (κ × ν)) (k:κ) (v:ν) (hn:(l.map (·.1)).Nodup):((setM l k v).map (·.1)).Nodup := by
  unfold setM
  split
  · rename_i i u h
    have h2 := (zih l k 0 i u h).2
    have:(l.set i (k,v)).map (·.1)=l.map (·.1) := by
      apply List.ext_getElem?
      intro j
      simp only [List.getElem?_map,List.getElem?_set]
      by_cases hj:i=j
      · subst hj
        simp only [Nat.sub_zero] at h2
        rw [h2]
        have:i < l.length := (List.getElem?_eq_some_iff.1 h2).1
        simp [this]
      · simp [hj]
    rw [this]; exact hn
  · rename_i h
    rw [List.map_append,List.nodup_append]
    refine ⟨hn,by simp,?_⟩
    intro a ha b hb e
    simp at hb; subst hb; subst e
    obtain ⟨p,hp,he⟩ := List.mem_map.1 ha
    exact zoj l a 0 h p hp he
theorem zuz (l:List (κ × ν)) (k:κ) (hn:(l.map (·.1)).Nodup):((delM l k).map (·.1)).Nodup := by
  unfold delM
  split
  · rename_i i u h
    exact List.Nodup.sublist (List.Sublist.map _ (List.eraseIdx_sublist l i)) hn
  · exact hn
def Ents (M:MTy κ ν):List MapEntry→List (κ × ν)→Prop
  | [],[]=>True
  | e::es,p::r=>e.key=M.ek p.1∧e.val=M.ev p.2∧Ents M es r
  | _,_=>False
theorem Ents.length {M:MTy κ ν} : ∀ {es:List MapEntry} {l:List (κ × ν)},Ents M es l→es.length=l.length
  | [],[],_=>rfl
  | _::_,_::_,h=>by simp [Ents.length h.2.2]
  | [],_::_,h=>h.elim
  | _::_,[],h=>h.elim
theorem Ents.push {M:MTy κ ν} {k:κ} {v:ν} {b:Nat} : ∀ {es:List MapEntry} {l:List (κ × ν)},Ents M es l→Ents M (es ++ [{ key := M.ek k,val := M.ev v,born := b }]) (l ++ [(k,v)])
  | [],[],_=>⟨rfl,rfl,trivial⟩
  | _::_,_::_,h=>⟨h.1,h.2.1,Ents.push h.2.2⟩
  | [],_::_,h=>h.elim
  | _::_,[],h=>h.elim
theorem Ents.set {M:MTy κ ν} {k:κ} {v:ν} : ∀ {es:List MapEntry} {l:List (κ × ν)} (i:Nat),Ents M es l→Ents M (es.modify i fun e => { e with key := M.ek k,val := M.ev v }) (l.set i (k,v))
  | [],[],i,_=>by simp [Ents]
  | e::_,p::_,0,h=>by simpa [Ents] using h.2.2
  | e::_,p::_,i + 1,h=>by simpa [Ents] using ⟨h.1,h.2.1,Ents.set i h.2.2⟩
  | [],_::_,_,h=>h.elim
  | _::_,[],_,h=>h.elim
theorem Ents.erase {M:MTy κ ν} : ∀ {es:List MapEntry} {l:List (κ × ν)} (i:Nat),Ents M es l→Ents M (es.eraseIdx i) (l.eraseIdx i)
  | [],[],i,_=>by simp [Ents]
  | e::_,p::_,0,h=>by simpa [Ents] using h.2.2
  | e::_,p::_,i + 1,h=>by simpa [Ents] using ⟨h.1,h.2.1,Ents.erase i h.2.2⟩
  | [],_::_,_,h=>h.elim
  | _::_,[],_,h=>h.elim
def mpc (M:MTy κ ν) (r:Nat) (l:List (κ × ν)):HP := fun h =>
  ∃ (es:Array MapEntry) (clock:Nat),h=PH.one r (.map es clock)∧Ents M es.toList l∧(l.map (·.1)).Nodup∧(es.toList.map (·.born)).Nodup ∧ ∀ e ∈ es.toList,e.born < clock
section
variable {P:Program} {M:MTy κ ν} {T:TypeId}
theorem zjs (hok:MOk P M T) (k:κ) (w:World):∀ (es:List MapEntry) (l:List (κ × ν)) (i:Nat),Ents M es l →
    (Instr.findAsking M.KT (M.ek k) es i).run P w = .ok ((findE l k i).map fun p=>(p.1,M.ev p.2)) w
  | [],[],i,_=>by simp [Instr.findAsking,findE]
  | e::es,p::l,i,h=>by
    have ih := zjs hok k w es l (i + 1) h.2.2
    simp only [Instr.findAsking,Sem.run_bind,h.1,hok.eq,Result.andThen_ok,findE]
    by_cases hk:k=p.1
    · simp [hk,h.2.1]
    · simp [hk,ih]
  | [],_::_,_,h=>h.elim
  | _::_,[],_,h=>h.elim
theorem zok (d:TypeDesc) (k:κ) (hs:∀ a b,Instr.sameNow d (M.ek a) (M.ek b)=some (decide (a=b))):∀ (es:List MapEntry) (l:List (κ × ν)) (i:Nat),Ents M es l →
    Instr.findNow d (M.ek k) es i=some ((findE l k i).map fun p=>(p.1,M.ev p.2))
  | [],[],i,_=>by simp [Instr.findNow,findE]
  | e::es,p::l,i,h=>by
    have ih := zok d k hs es l (i + 1) h.2.2
    simp only [Instr.findNow,h.1,hs,findE]
    by_cases hk:k=p.1
    · simp [hk,h.2.1]
    · simp [hk,ih]
  | [],_::_,_,h=>h.elim
  | _::_,[],_,h=>h.elim
theorem zjn (hok:MOk P M T) (k:κ) (w:World) {es:List MapEntry} {l:List (κ × ν)} (h:Ents M es l) :
    (Instr.findKey M.KT (M.ek k) es).run P w = .ok ((findE l k 0).map fun p=>(p.1,M.ev p.2)) w := by
  obtain ⟨d,hd,hs⟩ := hok.kd
  simp only [Instr.findKey,Sem.run_bind,run_underlying hd,Result.andThen_ok]
  rcases hs with hs | hs
  · cases es with
    | nil =>
      cases l with
      | nil=>simp [Instr.findNow,findE]
      | cons p r=>exact h.elim
    | cons e es =>
      cases l with
      | nil=>exact h.elim
      | cons p r =>
        have:Instr.findNow d (M.ek k) (e::es) 0=none := by simp [Instr.findNow,h.1,hs]
        rw [this]
        exact zjs hok k w (e::es) (p::r) 0 h
  · rw [zok d k hs es l 0 h]; rfl
end
section
variable {P:Program} {n:Env} {W:World} {s:Slots} {H:List HP} {K:Slots→List HP→Prop} {d:Nat} {dst:Option Tmp} {ty:TypeId} {pos:String} {after:Array Edge} {g:Option (Nat × Bool)}
variable {M:MTy κ ν} {T:TypeId} {r:Nat} {l:List (κ × ν)} {C:HP→List HP}
theorem zpn {w:World} {F:List HP} (h:St W w (mpc M r l::F)):∃ (es:Array MapEntry) (clock:Nat),St W w (pt r (.map es clock)::F)∧Ents M es.toList l∧(l.map (·.1)).Nodup∧(es.toList.map (·.born)).Nodup ∧ ∀ e ∈ es.toList,e.born < clock := by
  obtain ⟨gg,h1,h2,hd,he,⟨es,clock,rfl,h3⟩,hF⟩ := h.heap
  exact ⟨es,clock,⟨h.os,h.tape,h.output,gg,_,h2,hd,he,rfl,hF⟩,h3⟩
theorem zjt {w:World} {F:List HP} {es:Array MapEntry} {clock:Nat} (h:St W w (pt r (.map es clock)::F)) (h3:Ents M es.toList l∧(l.map (·.1)).Nodup∧(es.toList.map (·.born)).Nodup ∧ ∀ e ∈ es.toList,e.born < clock):St W w (mpc M r l::F) := by
  obtain ⟨gg,h1,h2,hd,he,rfl,hF⟩ := h.heap
  exact ⟨h.os,h.tape,h.output,gg,_,h2,hd,he,⟨es,clock,rfl,h3⟩,hF⟩
theorem zkm {w:World} {es:Array MapEntry} {clock:Nat} (h:w.heap[r]? = some (.map es clock)):(getObj r).run P w = .ok (.map es clock) w := by
  simp [getObj,Sem.run,h]
theorem zii {w:World} {es:Array MapEntry} {clock:Nat} {o:Obj} (h:w.heap[r]? = some (.map es clock)):(setObj r o).run P w = .ok () { w with heap := w.heap.setIfInBounds r o } := by
  simp [setObj,Sem.run,h]
theorem zrq {x y:Operand} {k:κ} {z:Value} {out:Option ν→Value} (hx:ev s x=some (.map (some r))) (hy:ev s y=some (M.ek k)) (hf':Foc H (mpc M r l) C) (hok:MOk P M T) (hz:∀ w,(zeroValue M.VT).run P w = .ok z w)
    (h1:∀ v,M.ev v=out (some v)) (h0:z=out none):VJ P n W ⟨dst,.lookup T x y false,ty,pos,after,g⟩ s H (out (lookM l k)) :=
  (fun q w hf hs=>by
    obtain ⟨F,hp,_⟩ := hf'.focus
    obtain ⟨es,clock,hs',he,_⟩ := zpn (hs.perm hp)
    have hg := zkm (P:=P) hs'.blk
    have hfk := zjn hok k w he
    have hlk := zkl l k 0
    simp only [execOp,hf.eval hx,hf.eval hy,Instr.lookup,Sem.run_bind,run_underlying hok.ty,Result.andThen_ok,hg,Sem.run_pure,hok.chk,hfk]
    cases hfe:findE l k 0 with
    | none=>rw [hfe] at hlk; simp [hz, ← hlk,h0]
    | some p=>rw [hfe] at hlk; simp [← hlk,h1])
theorem zc1 {x y u:Operand} {k:κ} {v:ν} (hx:ev s x=some (.map (some r))) (hy:ev s y=some (M.ek k)) (hu:ev s u=some (M.ev v)) (hf':Foc H (mpc M r l) C) (hok:MOk P M T) (hk:K s (C (mpc M r (setM l k v)))) :
    OJ P n W ⟨none,.mapUpdate T x y u,ty,pos,after,g⟩ s H K :=
  OJ_do (fun q w hf hs=>by
    obtain ⟨F,hp,hC⟩ := hf'.focus
    obtain ⟨es,clock,hs',he,hnd,hbn,hlt⟩ := zpn (hs.perm hp)
    have hg := zkm (P:=P) hs'.blk
    have hfk := zjn hok k w he
    have hn := zuy l k v hnd
    cases hfe:findE l k 0 with
    | none =>
      rw [hfe] at hfk
      have hset:setM l k v=l ++ [(k,v)] := by simp [setM,hfe]
      refine ⟨{ w with heap := w.heap.setIfInBounds r (.map (es.push { key := M.ek k,val := M.ev v,born := clock }) (clock + 1)) },_,.inl ?_,(zjt (l:=setM l k v) hs'.setObj ⟨?_,hn,?_,?_⟩).perm (hC _).symm,hk⟩
      · have hst := zii (P:=P) (o := .map (es.push { key := M.ek k,val := M.ev v,born := clock }) (clock + 1)) hs'.blk
        simp only [execOp,hf.eval hx,hf.eval hy,hf.eval hu,Instr.mapUpdate,Sem.run_bind,run_underlying hok.ty,Result.andThen_ok,hg,hok.chk,hfk,Option.map_none,hst,Sem.run_pure]
      · rw [hset]; simpa using he.push
      · simp only [Array.toList_push,List.map_append,List.map_cons,List.map_nil]
        rw [List.nodup_append]
        refine ⟨hbn,by simp,fun a ha b hb e => ?_⟩
        simp at hb; subst hb; subst e
        obtain ⟨e',he',hbe⟩ := List.mem_map.1 ha
        have := hlt e' he'; omega
      · intro e' he'
        simp only [Array.toList_push,List.mem_append,List.mem_singleton] at he'
        rcases he' with he' | rfl
        · have := hlt e' he'; omega
        · exact Nat.lt_succ_self _
    | some p =>
      obtain ⟨i,u'⟩ := p
      rw [hfe] at hfk
      have hset:setM l k v=l.set i (k,v) := by simp [setM,hfe]
      obtain ⟨_,hat⟩ := zih l k 0 i u' hfe
      have hil:i < l.length := (List.getElem?_eq_some_iff.1 hat).1
      have hie:i < es.toList.length := by rw [he.length]; exact hil
      have hkey:∀ (a:List MapEntry) (b:List (κ × ν)) (j:Nat),Ents M a b→b[j]? = some (k,u')→(a[j]?).map (·.key)=some (M.ek k) := by
        intro a
        induction a with
        | nil=>intro b j h hb; cases b with | nil=>simp at hb | cons _ _=>exact h.elim
        | cons e a ih =>
          intro b j h hb
          cases b with
          | nil=>exact h.elim
          | cons p b =>
            cases j with
            | zero=>simp at hb; subst hb; simp [h.1]
            | succ j=>simpa using ih b j h.2.2 (by simpa using hb)
      have hk2 := hkey es.toList l i he (by simpa using hat)
      have hk3:((es[i]?).map (·.key)).getD (M.ek k)=M.ek k := by
        rw [Array.getElem?_toList] at hk2; rw [hk2]; rfl
      have hmod:∀ e,e ∈ (es.modify i fun e => { e with key := M.ek k,val := M.ev v }).toList → ∃ e0 ∈ es.toList,e.born=e0.born := by
        intro e he'
        obtain ⟨j,hj,rfl⟩ := List.getElem_of_mem he'
        have hj':j < es.size := by simpa using hj
        refine ⟨es[j],by simp,?_⟩
        simp only [Array.getElem_toList,Array.getElem_modify]
        split <;> simp_all
      have hborn:(es.modify i fun e => { e with key := M.ek k,val := M.ev v }).toList.map (·.born)=es.toList.map (·.born) := by
        apply List.ext_getElem
        · simp
        · intro j h1 h2
          simp only [List.getElem_map,Array.getElem_toList,Array.getElem_modify]
          split <;> simp_all
      refine ⟨{ w with heap := w.heap.setIfInBounds r (.map (es.modify i fun e => { e with key := M.ek k,val := M.ev v }) clock) },_,.inl ?_,(zjt (l:=setM l k v) hs'.setObj ⟨?_,hn,?_,?_⟩).perm (hC _).symm,hk⟩
      · have hst := zii (P:=P) (o := .map (es.modify i fun e => { e with key := M.ek k,val := M.ev v }) clock) hs'.blk
        simp only [execOp,hf.eval hx,hf.eval hy,hf.eval hu,Instr.mapUpdate,Sem.run_bind,run_underlying hok.ty,Result.andThen_ok,hg,hok.chk,hfk,Option.map_some,hk3,Instr.keyThatStays,hok.same,if_true,Sem.run_pure,hst]
      · rw [hset,Array.toList_modify]; exact he.set i
      · rw [hborn]; exact hbn
      · intro e he'
        obtain ⟨e0,h0,hb⟩ := hmod e he'
        rw [hb]; exact hlt e0 h0)
theorem znt {x y:Operand} {k:κ} {T' E:TypeId} (hx:ev s x=some (.map (some r))) (hy:ev s y=some (M.ek k)) (hf':Foc H (mpc M r l) C) (hok:MOk P M T) (hk:K s (C (mpc M r (delM l k)))) :
    OJ P n W ⟨none,.call { callee := .builtin .delete,args := #[x,y],argTypes := #[T,T'] },E,pos,after,g⟩ s H K :=
  OJ_do (fun q w hf hs=>by
    obtain ⟨F,hp,hC⟩ := hf'.focus
    obtain ⟨es,clock,hs',he,hnd,hbn,hlt⟩ := zpn (hs.perm hp)
    have hg := zkm (P:=P) hs'.blk
    have hfk := zjn hok k w he
    have hn := zuz l k hnd
    cases hfe:findE l k 0 with
    | none =>
      rw [hfe] at hfk
      have hset:delM l k=l := by simp [delM,hfe]
      refine ⟨{ w with heap := w.heap.setIfInBounds r (.map es clock) },_,.inr ⟨.tuple #[],?_⟩,(zjt (l:=delM l k) hs'.setObj ⟨by rw [hset]; exact he,hn,hbn,hlt⟩).perm (hC _).symm,hk⟩
      have hst := zii (P:=P) (o := .map es clock) hs'.blk
      simp only [execOp,resolve,invoke,builtin]
      simp [hf.eval hx,hf.eval hy,Builtin.delete_,run_underlying hok.ty,hg,hok.chk,hfk,hst]
    | some p =>
      obtain ⟨i,u'⟩ := p
      rw [hfe] at hfk
      have hset:delM l k=l.eraseIdx i := by simp [delM,hfe]
      have hter:(es.eraseIdxIfInBounds i).toList=es.toList.eraseIdx i := by simp
      refine ⟨{ w with heap := w.heap.setIfInBounds r (.map (es.eraseIdxIfInBounds i) clock) },_,.inr ⟨.tuple #[],?_⟩,(zjt (l:=delM l k) hs'.setObj ⟨?_,hn,?_,?_⟩).perm (hC _).symm,hk⟩
      · have hst := zii (P:=P) (o := .map (es.eraseIdxIfInBounds i) clock) hs'.blk
        simp only [execOp,resolve,invoke,builtin]
        simp [hf.eval hx,hf.eval hy,Builtin.delete_,run_underlying hok.ty,hg,hok.chk,hfk,hst]
      · rw [hset,hter]; exact he.erase i
      · rw [hter]; exact List.Nodup.sublist (List.Sublist.map _ (List.eraseIdx_sublist _ i)) hbn
      · rw [hter]; exact fun e he' => hlt e (List.mem_of_mem_eraseIdx he'))
theorem ze2 (M:MTy κ ν) (hd:Nat.blt d n.n=true) (hk:∀ r,K ((d,.map (some r))::s) (mpc M r []::H)):OJ P n W ⟨some d,.makeMap T none,ty,pos,after,g⟩ s H K :=
  zge (fun q w hf hs=>⟨.map (some w.heap.size),w.alloc (.map #[] 0),_,by simp [execOp,Instr.makeMap],zjt (M:=M) (l:=[]) (hs.alloc _) ⟨by simp [Ents],by simp,by simp,by simp⟩,hk w.heap.size⟩) hd
end
end
end Go.VG
namespace Go.VG
set_option linter.unusedSimpArgs false
def shrU (a:UInt64) (n:Nat):UInt64 := UInt64.ofNat (a.toNat / 2 ^ n)
theorem zu0 (a:UInt64) (n:Nat):(shrU a n).toNat=a.toNat / 2 ^ n := by
  unfold shrU
  rw [UInt64.toNat_ofNat']
  exact Nat.mod_eq_of_lt (Nat.lt_of_le_of_lt (Nat.div_le_self _ _) a.toNat_lt)
theorem wrapU (x:Nat):IntKind.u64.wrap (x:Int)=((x % 18446744073709551616:Nat):Int) := by
  simp [IntKind.wrap,IntKind.signed,IntKind.bits]
section
variable {P:Program} {n:Env} {s:Slots} {dst:Option Tmp} {ty:TypeId} {pos:String} {after:Array Edge} {g:Option (Nat × Bool)} {x y:Operand} {t t':TypeId}
theorem P_shrU {k:IntKind} {a:UInt64} {m:Nat} {mi:Int} (hx:ev s x=some (.int .u64 (a.toNat:Int))) (hy:ev s y=some (.int k mi)) (he:mi=(m:Int)) (hm:m < 64) :
    PJ P n ⟨dst,.binOp .shr t x y t',ty,pos,after,g⟩ s (.int .u64 ((shrU a m).toNat:Int)) :=
  (fun q w hf=>by
    subst he
    have h1:¬ ((m:Int) < 0) := by omega
    have h2:min m 64=m := by omega
    have h3:Int.fdiv (a.toNat:Int) (2 ^ m)=((shrU a m).toNat:Int) := by
      rw [zu0,Int.fdiv_eq_ediv_of_nonneg _ (by exact_mod_cast Nat.zero_le (2 ^ m))]
      push_cast; rfl
    simp only [execOp,hf.eval hx,hf.eval hy,eqGuard,binOp,Op.shift,if_neg h1]
    simp [h2,IntKind.bits]; exact h3)
theorem ztv (a:UInt64):BitVec.ofInt 64 (a.toNat:Int)=a.toBitVec := by
  apply BitVec.eq_of_toNat_eq; simp
theorem wrap_u (a:UInt64):IntKind.u64.wrap (a.toNat:Int)=(a.toNat:Int) := by
  rw [wrapU,Nat.mod_eq_of_lt a.toNat_lt]
theorem P_andU {a b:UInt64} (hx:ev s x=some (.int .u64 (a.toNat:Int))) (hy:ev s y=some (.int .u64 (b.toNat:Int))):PJ P n ⟨dst,.binOp .and t x y t',ty,pos,after,g⟩ s (.int .u64 ((a &&& b).toNat:Int)) :=
  zoi hx hy (.inl rfl) (fun w=>by
    show Result.ok (Value.int .u64 (IntKind.u64.wrap ((BitVec.ofInt 64 (a.toNat:Int) &&& BitVec.ofInt 64 (b.toNat:Int)).toNat:Int))) w=_
    rw [ztv,ztv]; exact congrArg (fun z=>Result.ok (Value.int .u64 z) w) (wrap_u (a &&& b)))
theorem eqPN (d:Nat) {t T:TypeId} {a:Addr} {w:World} (hu:P.underlying t=some (.pointer T)):(Op.equalIn (d + 1) t (.pointer (some a)) (.pointer none)).run P w = .ok false w := by simp [Op.equalIn,run_underlying hu]
theorem eqNN (d:Nat) {t T:TypeId} {w:World} (hu:P.underlying t=some (.pointer T)):(Op.equalIn (d + 1) t (.pointer none) (.pointer none)).run P w = .ok true w := by simp [Op.equalIn,run_underlying hu]
theorem eqSN (d:Nat) {t T:TypeId} {p:Option Addr} {m c:Nat} {w:World} (hu:P.underlying t=some (.slice T)):(Op.equalIn (d + 1) t (.slice p m c) (.slice none 0 0)).run P w = .ok p.isNone w := by
  cases p <;> simp [Op.equalIn,run_underlying hu]
theorem zhm {b off:Nat} {T:TypeId} (hx:ev s x=some (ptr b off)) (hy:ev s y=some (.pointer none)) (hu:P.underlying t=some (.pointer T)):PJ P n ⟨dst,.binOp .eql t x y t',ty,pos,after,g⟩ s (.bool (false)) :=
  (fun q w hf=>by
    have h := eqPN 9999 (w:=w) (a:=⟨b,off,none⟩) hu
    simp only [execOp,hf.eval hx,hf.eval hy,eqGuard,binOp,Op.equal,Op.maxDepth,ptr]
    simp [h])
theorem zpo {b off:Nat} {T:TypeId} (hx:ev s x=some (ptr b off)) (hy:ev s y=some (.pointer none)) (hu:P.underlying t=some (.pointer T)):PJ P n ⟨dst,.binOp .neq t x y t',ty,pos,after,g⟩ s (.bool (true)) :=
  (fun q w hf=>by
    have h := eqPN 9999 (w:=w) (a:=⟨b,off,none⟩) hu
    simp only [execOp,hf.eval hx,hf.eval hy,eqGuard,binOp,Op.equal,Op.maxDepth,ptr]
    simp [h])
theorem zpp {T:TypeId} (hx:ev s x=some (.pointer none)) (hy:ev s y=some (.pointer none)) (hu:P.underlying t=some (.pointer T)):PJ P n ⟨dst,.binOp .eql t x y t',ty,pos,after,g⟩ s (.bool (true)) :=
  (fun q w hf=>by
    have h := eqNN 9999 (w:=w) hu
    simp only [execOp,hf.eval hx,hf.eval hy,eqGuard,binOp,Op.equal,Op.maxDepth,ptr]
    simp [h])
theorem zz6 {T:TypeId} (hx:ev s x=some (.pointer none)) (hy:ev s y=some (.pointer none)) (hu:P.underlying t=some (.pointer T)):PJ P n ⟨dst,.binOp .neq t x y t',ty,pos,after,g⟩ s (.bool (false)) :=
  (fun q w hf=>by
    have h := eqNN 9999 (w:=w) hu
    simp only [execOp,hf.eval hx,hf.eval hy,eqGuard,binOp,Op.equal,Op.maxDepth,ptr]
    simp [h])
theorem zz7 {p:Option Addr} {m c:Nat} {T:TypeId} (hx:ev s x=some (.slice p m c)) (hy:ev s y=some (.slice none 0 0)) (hu:P.underlying t=some (.slice T)):PJ P n ⟨dst,.binOp .eql t x y t',ty,pos,after,g⟩ s (.bool (p.isNone)) :=
  (fun q w hf=>by
    have h := eqSN 9999 (w:=w) (p:=p) (m:=m) (c:=c) hu
    simp only [execOp,hf.eval hx,hf.eval hy,eqGuard,binOp,Op.equal,Op.maxDepth,ptr]
    simp [h])
end
end Go.VG
namespace Go.VG
open Go.Deep Go.ChangeShapes Go.WideShapes
def Shown {α:Type} (P:Program) (E:TypeId) (t:Ty α):Prop := ∀ (H:Type) (enc:TypeId × Value→H) (w:World) (base:Nat) (spare:Nat→Bool) (held:Bool) (n:Nat) (cs:List Value) (x:DataW H × List MemPlace),
  DataW.trod enc P w base spare held n E cs=some x → ∃ y:α,cs=t.enc y
theorem zrr {α:Type} {t:Ty α} {P:Program} {H:Type} {enc:TypeId × Value→H} {w:World} {spare:Nat→Bool} {held:Bool} {T E:TypeId} {fuel:Nat} {p:Option Addr} {len cap:Nat} {x:DataW H × List MemPlace}
    (hT:P.underlying T=some (.slice E)) (hC:P.cellsOf E=t.sz) (hs:Shown P E t) (h:DataW.trod enc P w 0 spare held fuel T [.slice p len cap]=some x) :
    ∃ xs:List α,xs.length=len∧len≤maxLen∧Reads (old w) t (.slice p len cap) xs := by
  rcases open_slice hT h with ⟨h0,_⟩ | ⟨a,l,c,m,n,D,Pl,hcs,hb,hl,hm,hmm,hx,hi⟩
  · simp only [List.cons.injEq,Value.slice.injEq,and_true] at h0
    obtain ⟨rfl,rfl,rfl⟩ := h0
    exact ⟨[],rfl,Nat.zero_le _,Reads.old (.inl ⟨rfl,rfl,rfl,rfl⟩)⟩
  · simp only [List.cons.injEq,Value.slice.injEq,and_true] at hcs
    obtain ⟨rfl,rfl,rfl⟩ := hcs
    have hlm:len≤m := by rw [hmm]; split <;> omega
    have key:∀ i,i < len → ∃ y:α, ∀ k u,k < t.sz→(t.enc y)[k]? = some u→w.cell? (a.add (i * t.sz + k))=some u := by
      intro i hi'
      obtain ⟨cs',hc,ht'⟩ := hi i (by omega)
      obtain ⟨y,rfl⟩ := hs _ _ _ _ _ _ _ _ _ ht'
      rw [hC] at hc
      obtain ⟨_,_,hat⟩ := World.cells?_some hc
      refine ⟨y,fun k u hk hu => ?_⟩
      rw [← Go.Deep.add_add,hat k hk]; exact hu
    let f:Nat→α := fun i=>if h:i < len then Classical.choose (key i h) else t.dflt
    refine ⟨(List.range len).map f,by simp,by omega,Reads.old (.inr ⟨a,rfl,by simp,hl,hm,fun i k u hi' hk hu => ?_⟩)⟩
    have hil:i < len := by simpa using hi'
    have e:((List.range len).map f).getD i t.dflt=Classical.choose (key i hil) := by
      simp [List.getD,hil,f]
    rw [e] at hu
    exact Classical.choose_spec (key i hil) k u hk hu
theorem zjb {α:Type} {t:Ty α} {P:Program} {E:TypeId} (hs:Shown P E t) {H:Type} {enc:TypeId × Value→H} {w:World} {base:Nat} {spare:Nat→Bool} {held:Bool} {n i:Nat} {cs:List Value} {xs:List (DataW H × List MemPlace)}
    (h:DataW.trod enc P w base spare held n E cs=xs[i]?) (hi:i < xs.length):∃ y:α,cs=t.enc y := by
  rw [List.getElem?_eq_getElem hi] at h
  exact hs _ _ _ _ _ _ _ _ _ h
end Go.VG
namespace Go.VG
section
variable {α:Type} (f:α→HP)
def Own (l:List α):HP := star (l.map f)
def ORest (l:List α) (i:Nat):HP := star ((l.take i ++ l.drop (i + 1)).map f)
theorem zqo (l:List α) (i:Nat) (d:α) (hi:i < l.length):(l.map f).Perm (f (l.getD i d)::(l.take i ++ l.drop (i + 1)).map f) := by
  have h1:l=l.take i ++ l.getD i d::l.drop (i + 1) := by
    have := List.take_append_drop i l
    rw [List.drop_eq_getElem_cons hi] at this
    simp [List.getD,hi]
  have h2:l.map f=(l.take i ++ l.getD i d::l.drop (i + 1)).map f := by rw [← h1]
  rw [h2,List.map_append,List.map_cons,List.map_append]
  exact List.perm_middle
theorem zxo {l:List α} (i:Nat) (d:α) (hi:i < l.length) {R:List HP} : Ent (Own f l::R) (f (l.getD i d)::ORest f l i::R) := by
  intro h hh
  have h2 := zbd ((zqo f l i d hi).append_right R) _ (stars_star.1 hh)
  simp only [List.cons_append] at h2
  obtain ⟨g1,g2,dj,e,ha,hb⟩ := h2
  exact ⟨g1,g2,dj,e,ha,stars_star.2 hb⟩
theorem zjc {l:List α} {i:Nat} (x:α) (hi:i < l.length) {R:List HP} : Ent (f x::ORest f l i::R) (Own f (l.set i x)::R) := by
  intro h hh
  have h3:stars ((f x::(l.take i ++ l.drop (i + 1)).map f) ++ R) h := by
    obtain ⟨g1,g2,dj,e,ha,hb⟩ := hh
    exact ⟨g1,g2,dj,e,ha,stars_star.1 hb⟩
  refine stars_star.2 (zbd (List.Perm.append_right R ?_) _ h3)
  have h4 := zqo f (l.set i x) i x (by simpa using hi)
  have e1:(l.set i x).getD i x=x := by simp [List.getD,hi]
  have e2:(l.set i x).take i=l.take i := by simp [List.take_set_of_le]
  have e3:(l.set i x).drop (i + 1)=l.drop (i + 1) := by simp [List.drop_set]
  rw [e1,e2,e3] at h4
  exact h4.symm
theorem zxp {l:List α} (x:α) {R:List HP} : Ent (f x::Own f l::R) (Own f (l ++ [x])::R) := by
  intro h hh
  have h3:stars ((f x::l.map f) ++ R) h := by
    obtain ⟨g1,g2,dj,e,ha,hb⟩ := hh
    exact ⟨g1,g2,dj,e,ha,stars_star.1 hb⟩
  refine stars_star.2 (zbd (List.Perm.append_right R ?_) _ h3)
  rw [List.map_append]
  exact (List.perm_append_singleton _ _).symm
theorem zz8 {R:List HP} : Ent R (Own f []::R) := fun _ hh=>stars_star.2 hh
end
theorem zhn {α β:Type} (g:α→β) (l:List α) (i:Nat) (d:α):(l.map g).getD i (g d)=g (l.getD i d) := by
  simp only [List.getD,List.getElem?_map]; cases l[i]? <;> rfl
end Go.VG
