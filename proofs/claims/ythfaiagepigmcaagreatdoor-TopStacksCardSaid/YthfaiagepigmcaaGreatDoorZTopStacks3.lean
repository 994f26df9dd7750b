/- TopStacks, part 3 of the proof: CDisk1, CDiskI, LDel, CLoad, LDev, LSpan, LMake, PMake, PSpans, PGood, PGood2, PArr, PMapD, PFls. -/
import Derived.WalkKit
import Derived.Orders
import Derived.RangeFuncLeaves
import Derived.RangeFuncCalls
import Derived.TacticsIn
import Derived.Handy
import Derived.OrdersHeld
import Derived.OrdersIn
import Derived.Below
import Derived.OpenShut
import Derived.Deep.Slices
import Derived.Scope
import Derived.KernelRfl
import Derived.RangeFuncRecord
import Derived.ChangeKeysEq
import Derived.Laws.BytesArg
import Derived.Lib.Bytealg
import Derived.Lib.AppendStr
import Derived.Lib.Builder
import Derived.Lib.UnsafeStr
import Derived.ProofKit
import Derived.ShutString
import Derived.ChangeOld
import Derived.Stop.Joined
import Derived.LaidLaws
import Derived.LaidHandle
import Derived.MakeChecks
import Derived.SevenTiedAt
import Derived.Test.YthfaiagepigmcaaGreatDoorChecked
import Derived.Test.YthfaiagepigmcaaGreatDoorRows
import Derived.Test.YthfaiagepigmcaaGreatDoorZTopStacks2
set_option linter.unusedSimpArgs false
set_option maxRecDepth 20000
namespace Go.Proofs
open Go.VG
theorem znl (v0:Int) (v1:Int):∀ w,(Instr.build 162 (#[(0,.int .i64 v0),(1,.int .i64 v1)]:Array (Nat × Value))).run Tryz.prog w = .ok (.agg #[.int .i64 v0,.int .i64 v1]) w := fun w=>by kernel_rfl
theorem zl1 (v0:Fn) (v1:(Array Value)) (v2:(Array Value)) (v3:Fn) (v4:(Array Value)) (v5:(Array Value)) (v6:Fn) (v7:(Array Value)) (v8:(Array Value)) (v9:Fn) (v10:(Array Value)) (v11:(Array Value)) (v12:Fn) (v13:(Array Value)) (v14:(Array Value)):zbg Tryz.prog 367 5 [(0,.func v0 v1 v2),(1,.func v3 v4 v5),(2,.func v6 v7 v8),(3,.func v9 v10 v11),(4,.func v12 v13 v14)] 366 [.func v0 v1 v2,.func v3 v4 v5,.func v6 v7 v8,.func v9 v10 v11,.func v12 v13 v14] := fun w=>by kernel_rfl
theorem znx (v0:Fn) (v1:(Array Value)) (v2:(Array Value)) (v3:Fn) (v4:(Array Value)) (v5:(Array Value)) (v6:Fn) (v7:(Array Value)) (v8:(Array Value)) (v9:Fn) (v10:(Array Value)) (v11:(Array Value)):zbg Tryz.prog 367 4 [(0,.func v0 v1 v2),(1,.func v3 v4 v5),(2,.func v6 v7 v8),(3,.func v9 v10 v11)] 366 [.func v0 v1 v2,.func v3 v4 v5,.func v6 v7 v8,.func v9 v10 v11] := fun w=>by kernel_rfl
theorem znm (v0:Int) (v1:Int) (v2:Int):∀ w,(Instr.build 164 (#[(0,.agg #[.int .i64 v0,.int .i64 v1]),(1,.int .u64 v2)]:Array (Nat × Value))).run Tryz.prog w = .ok (.agg #[.int .i64 v0,.int .i64 v1,.int .u64 v2]) w := fun w=>by kernel_rfl
theorem zl2 (v0:Int) (v1:Int) (v2:Int):zbg Tryz.prog 71 1 [(0,.agg #[.int .i64 v0,.int .i64 v1,.int .u64 v2])] 164 [.int .i64 v0,.int .i64 v1,.int .u64 v2] := fun w=>by kernel_rfl
theorem zr6 (v0:(Option Nat)):∀ w,(Instr.build 73 (#[(1,.map v0)]:Array (Nat × Value))).run Tryz.prog w = .ok (.agg #[.slice none 0 0,.map v0,.slice none 0 0,.int .i64 0,.bool false,.int .i64 0]) w := fun w=>by kernel_rfl
theorem zij (v0:(Option Addr)) (v1:Nat) (v2:Nat) (v3:(Option Addr)) (v4:Nat) (v5:Nat):∀ w,(Instr.build 75 (#[(0,.slice v0 v1 v2),(1,.slice v3 v4 v5)]:Array (Nat × Value))).run Tryz.prog w = .ok (.agg #[.slice v0 v1 v2,.slice v3 v4 v5,.bool false]) w := fun w=>by kernel_rfl
theorem zje (v0:(Option Addr)) (v1:Nat) (v2:Nat) (v3:(Option Addr)) (v4:Nat) (v5:Nat) (v6:Bool):zbg Tryz.prog 70 1 [(0,.agg #[.slice v0 v1 v2,.slice v3 v4 v5,.bool v6])] 75 [.slice v0 v1 v2,.slice v3 v4 v5,.bool v6] := fun w=>by kernel_rfl
theorem zvz (v0:Int):∀ w,(Instr.build 162 (#[(0,.int .i64 v0)]:Array (Nat × Value))).run Tryz.prog w = .ok (.agg #[.int .i64 v0,.int .i64 0]) w := fun w=>by kernel_rfl
theorem zpu (v0:Fn) (v1:(Array Value)) (v2:(Array Value)) (v3:Fn) (v4:(Array Value)) (v5:(Array Value)) (v6:Fn) (v7:(Array Value)) (v8:(Array Value)):zbg Tryz.prog 367 3 [(0,.func v0 v1 v2),(1,.func v3 v4 v5),(2,.func v6 v7 v8)] 366 [.func v0 v1 v2,.func v3 v4 v5,.func v6 v7 v8] := fun w=>by kernel_rfl
theorem zl3 {s:ArrS} {d:Int} (h:cLoc s d=0):inR s d := by
  unfold cLoc at h; split at h
  · assumption
  · omega
def wrC (s:ArrS) (d a:Int):Int := fz [cPow s,cLoc s d,cPla s d a,cPre s d]
def rdC (s:ArrS) (d a:Int):Int := fz [cPow s,cLoc s d,cPla s d a,cPre s d,cWho s d a]
def flC (s:ArrS) (d:Int):Int := fz [cPow s,cLoc s d,cPre s d]
theorem zpv {c:Int} {r:List Int} : fz (c::r)=0↔c=0∧fz r=0 := by
  show (if c=0 then fz r else c)=0↔_
  split
  · rename_i h; simp [h]
  · rename_i h; simp [h]
theorem zv0 {s:ArrS} (h:cPow s=0):s.down=false := by unfold cPow at h; cases hd:s.down <;> simp_all
theorem pla_of {s:ArrS} {d a:Int} (h:cPla s d a=0):0≤a∧a < sizeI s d := by
  unfold cPla at h; split at h
  · assumption
  · omega
theorem zv1 {s:ArrS} {d a:Int} (h1:cLoc s d=0) (h2:cPla s d a=0):∃ i k:Nat,d=i∧a=k∧i < s.drv.length∧k < (s.drv.getD i d0).now.length := by
  obtain ⟨h3,h4⟩ := zl3 h1
  obtain ⟨h5,h6⟩ := pla_of h2
  obtain ⟨i,rfl⟩ := Int.eq_ofNat_of_zero_le h3
  obtain ⟨k,rfl⟩ := Int.eq_ofNat_of_zero_le h5
  refine ⟨i,k,rfl,rfl,by omega,?_⟩
  rw [sizeI,if_pos ⟨h3,h4⟩] at h6
  have:(k:Int) < ((s.drv.getD i d0).now.length:Int) := h6
  omega
theorem wr_ok {s:ArrS} {d a:Int} (h:wrC s d a=0):s.down=false ∧ ∃ i k:Nat,d=i∧a=k∧i < s.drv.length∧k < (s.drv.getD i d0).now.length := by
  simp only [wrC,zpv] at h
  exact ⟨zv0 h.1,zv1 h.2.1 h.2.2.1⟩
theorem rd_ok {s:ArrS} {d a:Int} (h:rdC s d a=0):s.down=false ∧ ∃ i k:Nat,d=i∧a=k∧i < s.drv.length∧k < (s.drv.getD i d0).now.length := by
  simp only [rdC,zpv] at h
  exact ⟨zv0 h.1,zv1 h.2.1 h.2.2.1⟩
section
variable {W:World} {S:HP} {v:Value} {b:Nat} {s:ArrS} {d a:Int}
theorem c_chk5 (hA:Reads S tyFn v [(250,ptr b 0),(251,ptr b 0),(253,ptr b 0),(252,ptr b 0),(254,ptr b 0)]) :
    CSpec Tryz.prog W 249 [.agg #[.int .i64 d,.int .i64 a],v] [S,Arr b s] (fun _:Unit => .int .i64 (rdC s d a)) (fun _=>True) (fun _ F=>S::Arr b s::F) :=
  zpt _ [cPow s,cLoc s d,cPla s d a,cPre s d,cWho s d a] hA rfl (by simp) (fun k hk hz=>by
    match k,hk with
    | 0,_=>exact ⟨Tryz.call250,zly⟩
    | 1,_=>exact ⟨Tryz.call251,zlz⟩
    | 2,_=>exact ⟨Tryz.call253,zr5⟩
    | 3,_=>exact ⟨Tryz.call252,zl0 (zl3 (hz 1 (by decide)))⟩
    | 4,_=>exact ⟨Tryz.call254,z0f⟩
    | n + 5,h=>exact absurd h (by simp))
theorem c_chk4 (hA:Reads S tyFn v [(250,ptr b 0),(251,ptr b 0),(253,ptr b 0),(252,ptr b 0)]) :
    CSpec Tryz.prog W 249 [.agg #[.int .i64 d,.int .i64 a],v] [S,Arr b s] (fun _:Unit => .int .i64 (wrC s d a)) (fun _=>True) (fun _ F=>S::Arr b s::F) :=
  zpt _ [cPow s,cLoc s d,cPla s d a,cPre s d] hA rfl (by simp) (fun k hk hz=>by
    match k,hk with
    | 0,_=>exact ⟨Tryz.call250,zly⟩
    | 1,_=>exact ⟨Tryz.call251,zlz⟩
    | 2,_=>exact ⟨Tryz.call253,zr5⟩
    | 3,_=>exact ⟨Tryz.call252,zl0 (zl3 (hz 1 (by decide)))⟩
    | n + 4,h=>exact absurd h (by simp))
theorem c_chk3 (hA:Reads S tyFn v [(250,ptr b 0),(251,ptr b 0),(252,ptr b 0)]) :
    CSpec Tryz.prog W 249 [.agg #[.int .i64 d,.int .i64 a],v] [S,Arr b s] (fun _:Unit => .int .i64 (flC s d)) (fun _=>True) (fun _ F=>S::Arr b s::F) :=
  zpt _ [cPow s,cLoc s d,cPre s d] hA rfl (by simp) (fun k hk hz=>by
    match k,hk with
    | 0,_=>exact ⟨Tryz.call250,zly⟩
    | 1,_=>exact ⟨Tryz.call251,zlz⟩
    | 2,_=>exact ⟨Tryz.call252,zl0 (zl3 (hz 1 (by decide)))⟩
    | n + 3,h=>exact absurd h (by simp))
end
def nowAt (s:ArrS) (d a:Int):UInt64 := (s.drv.getD d.toNat d0).now.getD a.toNat 0
def rdV (s:ArrS) (d a:Int):UInt64 := if rdC s d a=0 then nowAt s d a else 0
def zdc (s:ArrS) (i k:Nat) (v:UInt64):List Drive := s.drv.set i { s.drv.getD i d0 with now := (s.drv.getD i d0).now.set k v }
def wrS (s:ArrS) (d a:Int) (v:UInt64):ArrS :=
  if wrC s d a≠0 then s
  else if s.fuse=1 then { s with fuse := 0,down := true }
  else { s with drv := zdc s d.toNat a.toNat v,bad := delM s.bad (d,a),log := s.log ++ [⟨d.toNat,a.toNat,v⟩],fuse := s.fuse - 1,writes := s.writes + 1 }
def wrR (s:ArrS) (d a:Int):Int := if wrC s d a≠0 then wrC s d a else if s.fuse=1 then 5 else 0
theorem hs_set {l:DL} {i:Nat} {y:Drive} : DL.hs (l.set i ((DL.hs l).getD i dH0,y))=DL.hs l := by
  apply List.ext_getElem?
  intro j
  simp only [DL.hs,List.getElem?_map,List.getElem?_set,List.getD]
  by_cases h:i=j
  · subst h
    by_cases h2:i < l.length
    · simp [h2]
    · simp [h2]
  · simp [h]
theorem zik {b r:Nat} {s s':ArrS} {dv lv:Sl3} {l:DL} (i:Nat) (y:Drive) (hl:l.map Prod.snd=s.drv) (hm:∀ p ∈ l,p.1.miss=p.2.miss) (hi:i < s.drv.length) (h:s'.drv=s.drv.set i y) (hy:y.miss=(s.drv.getD i d0).miss) (hw:ArrWF s') {R:List HP} :
    Ent (blk b 73 [dv.v,.map (some r),lv.v,.int .i64 (s'.fuse:Int),.bool s'.down,.int .i64 (s'.writes:Int)]::sl tyDrv dv.v (DL.hs l)::sl tyU ((DL.hs l).getD i dH0).now.v y.now::sl tyU ((DL.hs l).getD i dH0).dur.v y.dur::DRest l i::sl tyRec lv.v s'.log::mpc mBad r s'.bad::R) (Arr b s' :: R) := by
  have hi':i < l.length := by rw [← hl] at hi; simpa using hi
  refine Ent.trans (Ent.take del2 (Ent.take del2 (Ent.take del2 Ent.refl))) (Ent.trans (zks ((DL.hs l).getD i dH0,y) hi') ?_)
  refine Ent.trans (Ent.take del1 (Ent.takeC del1 (congrArg (sl tyDrv dv.v) hs_set.symm) (Ent.take del0 (Ent.take del0 (Ent.take del0 Ent.refl))))) (zcl ?_ ?_ hw)
  · rw [h, ← hl,List.map_set]
  · intro p hp
    rcases List.mem_or_eq_of_mem_set hp with hp | rfl
    · exact hm p hp
    · rw [zpr hl hm hi]; exact hy.symm
theorem zkt {s:ArrS} {i k:Nat} {v:UInt64} : (zdc s i k v).length=s.drv.length := by simp [zdc]
theorem zv2 {s:ArrS} {i k j:Nat} {v:UInt64} (hi:i < s.drv.length):(zdc s i k v).getD j d0=if j=i then { s.drv.getD i d0 with now := (s.drv.getD i d0).now.set k v } else s.drv.getD j d0 := by
  simp only [zdc,List.getD,List.getElem?_set]
  by_cases h:i=j
  · subst h; simp [hi]
  · have:¬ j=i := fun e=>h e.symm
    simp [h,this]
theorem znn {s:ArrS} {i k j:Nat} {v:UInt64} (hi:i < s.drv.length):((zdc s i k v).getD j d0).now.length=(s.drv.getD j d0).now.length∧((zdc s i k v).getD j d0).dur=(s.drv.getD j d0).dur := by
  rw [zv2 hi]; split
  · rename_i h; subst h; simp
  · exact ⟨rfl,rfl⟩
theorem wf_wr {s:ArrS} {i k:Nat} {v:UInt64} (hw:ArrWF s) (hi:i < s.drv.length) (hk:k < (s.drv.getD i d0).now.length) (m:List ((Int × Int) × Unit)) (f:Nat) (hf:f≤s.fuse) :
    ArrWF { s with drv := zdc s i k v,bad := m,log := s.log ++ [⟨i,k,v⟩],fuse := f,writes := s.writes + 1 } where
  cnt := by rw [zkt]; exact hw.cnt
  same := fun j hj=>by
    rw [zkt] at hj
    have := znn (k:=k) (j:=j) (v:=v) hi
    rw [this.1,this.2]; exact hw.same j hj
  log := fun j hj=>by
    simp only [List.length_append,List.length_cons,List.length_nil] at hj
    have e:∀ x,ArrS.size { s with drv := zdc s i k v,bad := m,log := s.log ++ [⟨i,k,v⟩],fuse := f,writes := s.writes + 1 } x=s.size x := fun x=>(znn (k:=k) (j:=x) (v:=v) hi).1
    simp only [e,zkt]
    rcases Nat.lt_or_ge j s.log.length with h | h
    · rw [show (s.log ++ [(⟨i,k,v⟩:Rec)]).getD j r0=s.log.getD j r0 by simp [List.getD,List.getElem?_append_left h]]
      exact hw.log j h
    · obtain rfl:j=s.log.length := by omega
      rw [show (s.log ++ [(⟨i,k,v⟩:Rec)]).getD s.log.length r0=⟨i,k,v⟩ by simp [List.getD]]
      exact ⟨hi,hk⟩
  len := by have := hw.len; simp only [List.length_append,List.length_cons,List.length_nil]; omega
  fuse := by have := hw.fuse; show f≤_; omega
theorem arrC {b T:Nat} {x0 x1 x2 x4:Value} {f f' w w':Int} (h1:f=f') (h2:w=w'):blk b T [x0,x1,x2,.int .i64 f,x4,.int .i64 w]=blk b T [x0,x1,x2,.int .i64 f',x4,.int .i64 w'] := by rw [h1,h2]
theorem zjf {l:DL} (x:DrvH × Drive) {R:List HP} : Ent (sl tyU x.1.now.v x.2.now::sl tyU x.1.dur.v x.2.dur::DOwn l::R) (DOwn (l ++ [x])::R) := by
  intro h hh
  have h1:stars (own1 x::DOwn l::R) h := stars_star.2 hh
  have h3:stars ((own1 x::l.map own1) ++ R) h := by
    obtain ⟨g1,g2,d,e,ha,hb⟩ := h1
    exact ⟨g1,g2,d,e,ha,stars_star.1 hb⟩
  refine stars_star.2 (zbd (List.Perm.append_right R ?_) _ h3)
  rw [List.map_append]
  exact (List.perm_append_singleton _ _).symm
theorem zr7 {R:List HP} : Ent R (DOwn []::R) := fun _ hh=>stars_star.2 hh
def mkD (z:Int):Drive := ⟨List.replicate z.toNat 0,List.replicate z.toNat 0,false⟩
def newS (zs:List Int):ArrS := ⟨zs.map mkD,[],[],0,false,0⟩
theorem z0g {zs:List Int} (h8:zs.length≤8) (h:∀ k,k < zs.length→1≤zs.getD k 0∧zs.getD k 0≤65536):ArrWF (newS zs) where
  cnt := by simp [newS]; exact h8
  same := fun i hi=>by
    have hi':i < zs.length := by simpa [newS] using hi
    have := h i hi'
    have e:(newS zs).drv.getD i d0=mkD (zs.getD i 0) := by simp [newS,List.getD,hi']
    rw [e]; generalize zs.getD i 0=z at this; simp [mkD]; omega
  log := fun i hi=>by simp [newS] at hi
  len := by simp [newS]
  fuse := by simp [newS]
theorem z0h {b r:Nat} {dv:Sl3} {l:DL} {zs:List Int} (hl:l.map Prod.snd=zs.map mkD) (hm:∀ p ∈ l,p.1.miss=p.2.miss) (hw:ArrWF (newS zs)) {R:List HP} :
    Ent (blk b 73 [dv.v,.map (some r),.slice none 0 0,.int .i64 0,.bool false,.int .i64 0]::sl tyDrv dv.v (DL.hs l)::DOwn l::mpc mBad r []::R) (Arr b (newS zs)::R) :=
  Ent.trans (fun h hh=>zch (t:=tyRec) h hh) (Ent.trans (Ent.take del1 (Ent.take del1 (Ent.take del1 (Ent.take del0 (Ent.take del0 Ent.refl))))) (zcl (s:=newS zs) (lv:=⟨none,0,0⟩) hl hm hw))
theorem tupRd0 {s:ArrS} {d a:Int} (h:rdC s d a≠0):Value.tuple #[.int .u64 0,.int .i64 (rdC s d a)] = .tuple #[.int .u64 ((rdV s d a).toNat:Int),.int .i64 (rdC s d a)] := by
  rw [rdV,if_neg h]; rfl
theorem tupRd {s:ArrS} {i k:Nat} (h:rdC s i k=0):Value.tuple #[.int .u64 (((s.drv.getD i d0).now.getD k 0).toNat:Int),.int .i64 0] = .tuple #[.int .u64 ((rdV s i k).toNat:Int),.int .i64 (rdC s i k)] := by
  rw [rdV,if_pos h,h]; rfl
theorem z0i {s:ArrS} {d a:Int} {v:UInt64} (h:wrC s d a≠0):wrS s d a v=s := if_pos h
theorem z0j {s:ArrS} {d a:Int} (h:wrC s d a≠0):wrR s d a=wrC s d a := if_pos h
theorem zxv {s:ArrS} {d a:Int} {v:UInt64} (h:wrC s d a=0) (hf:s.fuse=1):wrS s d a v = { s with fuse := 0,down := true } := by rw [wrS,if_neg (by simp [h]),if_pos hf]
theorem zxw {s:ArrS} {d a:Int} (h:wrC s d a=0) (hf:s.fuse=1):wrR s d a=5 := by rw [wrR,if_neg (by simp [h]),if_pos hf]
theorem zv3 {s:ArrS} {i k:Nat} {v:UInt64} (h:wrC s i k=0) (hf:s.fuse≠1):wrS s i k v = { s with drv := zdc s i k v,bad := delM s.bad (i,k),log := s.log ++ [⟨i,k,v⟩],fuse := s.fuse - 1,writes := s.writes + 1 } := by rw [wrS,if_neg (by simp [h]),if_neg hf]; rfl
theorem zv4 {s:ArrS} {d a:Int} (h:wrC s d a=0) (hf:s.fuse≠1):wrR s d a=0 := by rw [wrR,if_neg (by simp [h]),if_neg hf]
theorem zty {s:ArrS} (hw:ArrWF s) (f:Nat) (hf:f≤9223372036854775807) (dn:Bool):ArrWF { s with fuse := f,down := dn } :=
  { cnt := hw.cnt,same := hw.same,log := hw.log,len := hw.len,fuse := hf }
def smS (s:ArrS) (d:Int) (t:Bool):ArrS := if inR s d then { s with drv := s.drv.set d.toNat { s.drv.getD d.toNat d0 with miss := t } } else s
theorem zr8 {α:Type} {l:List α} {i j:Nat} {x y:α} (hi:i < l.length):(l.set i x).getD j y=if j=i then x else l.getD j y := by
  simp only [List.getD,List.getElem?_set]
  by_cases h:i=j
  · subst h; simp [hi]
  · have:¬ j=i := fun e=>h e.symm
    simp [h,this]
theorem wf_drv {s:ArrS} (hw:ArrWF s) {i:Nat} (y:Drive) (hi:i < s.drv.length) (h1:y.now.length=(s.drv.getD i d0).now.length) (h2:y.dur.length=(s.drv.getD i d0).dur.length):ArrWF { s with drv := s.drv.set i y } where
  cnt := by simpa using hw.cnt
  same := fun j hj=>by
    simp only [List.length_set] at hj
    rw [zr8 hi]; split
    · rename_i h; subst h; rw [h1,h2]; exact hw.same j hj
    · exact hw.same j hj
  log := fun j hj=>by
    have := hw.log j hj
    refine ⟨by simpa using this.1,?_⟩
    show _ < ((s.drv.set i y).getD _ d0).now.length
    rw [zr8 hi]; split
    · rename_i h; rw [h1, ← h]; exact this.2
    · exact this.2
  len := hw.len
  fuse := hw.fuse
def NewOk (zs:List Int):Prop := zs.length≤8 ∧ ∀ k,k < zs.length→1≤zs.getD k 0∧zs.getD k 0≤65536
theorem zxx {zs:List Int} (h:zs.length≤8) (h1:∀ z ∈ zs,1≤z∧z≤65536):NewOk zs := by
  refine ⟨h,fun k hk => ?_⟩
  have:zs.getD k 0=zs[k] := by simp [List.getD,hk]
  rw [this]; exact h1 _ (List.getElem_mem hk)
theorem zhy (xs:List Int) (k:Nat) (h:k < xs.length):xs.take (k + 1)=xs.take k ++ [xs.getD k 0] := by
  rw [List.take_succ_eq_append_getElem h]; simp [List.getD,h]
theorem zmr (l:DL) (x:DrvH × Drive):DL.hs (l ++ [x])=DL.hs l ++ [x.1] := by simp [DL.hs]
theorem tup2p {v:Value} {k:IntKind} {a b:Int} (h:a=b):Value.tuple #[v,.int k a] = .tuple #[v,.int k b] := by rw [h]
def flDur (now:List UInt64) (i:Nat) (log:List Rec) (du:List UInt64):List UInt64 := log.foldl (fun du r=>if r.d=i then du.set r.a (now.getD r.a 0) else du) du
theorem zjg (now:List UInt64) (i:Nat):∀ (log:List Rec) (du:List UInt64),(flDur now i log du).length=du.length
  | [],_=>rfl
  | r::log,du=>by
    show (flDur now i log _).length=_
    rw [zjg now i log]; dsimp only; split <;> simp
theorem takeR (log:List Rec) (k:Nat) (h:k < log.length):log.take (k + 1)=log.take k ++ [log.getD k r0] := by
  rw [List.take_succ_eq_append_getElem h]; simp [List.getD,h]
theorem fl_t {now:List UInt64} {i k:Nat} {log:List Rec} {du:List UInt64} (hk:k < log.length) (h:(log.getD k r0).d=i):(flDur now i (log.take k) du).set (log.getD k r0).a (now.getD (log.getD k r0).a 0)=flDur now i (log.take (k + 1)) du := by
  rw [takeR log k hk,flDur,flDur,List.foldl_append]
  show _=if _ then _ else _
  rw [if_pos h]
theorem fl_f {now:List UInt64} {i k:Nat} {log:List Rec} {du:List UInt64} (hk:k < log.length) (h:(log.getD k r0).d≠i):flDur now i (log.take k) du=flDur now i (log.take (k + 1)) du := by
  rw [takeR log k hk,flDur,flDur,List.foldl_append]
  show _=if _ then _ else _
  rw [if_neg h]
abbrev zds (i:Nat) (log:List Rec):List Rec := log.filter (fun r=>decide (r.d≠i))
theorem ot_t {i k:Nat} {log:List Rec} (hk:k < log.length) (h:(log.getD k r0).d=i):zds i (log.take k)=zds i (log.take (k + 1)) := by
  rw [takeR log k hk]; generalize log.getD k r0=x at h ⊢; simp [zds,List.filter_append,h]
theorem ot_f {i k:Nat} {log:List Rec} (hk:k < log.length) (h:(log.getD k r0).d≠i):zds i (log.take k) ++ [log.getD k r0]=zds i (log.take (k + 1)) := by
  rw [takeR log k hk]; generalize log.getD k r0=x at h ⊢; simp [zds,List.filter_append,h]
def flS (s:ArrS) (d:Int):ArrS := if flC s d≠0 then s else { s with drv := s.drv.set d.toNat { s.drv.getD d.toNat d0 with dur := flDur (s.drv.getD d.toNat d0).now d.toNat s.log (s.drv.getD d.toNat d0).dur },log := zds d.toNat s.log }
theorem z0k {s:ArrS} {d:Int} (h:flC s d≠0):flS s d=s := if_pos h
theorem zr9 {s:ArrS} {i:Nat} (h:flC s i=0):flS s i = { s with drv := s.drv.set i { s.drv.getD i d0 with dur := flDur (s.drv.getD i d0).now i s.log (s.drv.getD i d0).dur },log := zds i s.log } := by rw [flS,if_neg (by simp [h])]; rfl
theorem fl_ok {s:ArrS} {d:Int} (h:flC s d=0):∃ i:Nat,d=i∧i < s.drv.length := by
  simp only [flC,zpv] at h
  obtain ⟨h3,h4⟩ := zl3 h.2.1
  obtain ⟨i,rfl⟩ := Int.eq_ofNat_of_zero_le h3
  exact ⟨i,rfl,by omega⟩
theorem wf_log {s:ArrS} (hw:ArrWF s) (q:Rec→Bool):ArrWF { s with log := s.log.filter q } where
  cnt := hw.cnt
  same := hw.same
  log := fun j hj=>by
    have hm:(s.log.filter q).getD j r0 ∈ s.log := by
      have h1:(s.log.filter q).getD j r0=(s.log.filter q)[j] := by rw [List.getD,List.getElem?_eq_getElem hj]; rfl
      rw [h1]; exact (List.mem_filter.1 (List.getElem_mem hj)).1
    obtain ⟨n,hn,he⟩ := List.getElem_of_mem hm
    have := hw.log n hn
    have h2:s.log.getD n r0=s.log[n] := by rw [List.getD,List.getElem?_eq_getElem hn]; rfl
    rw [h2,he] at this
    exact this
  len := Nat.le_trans (List.length_filter_le _ _) hw.len
  fuse := hw.fuse
structure LOk (l0 l1:DL) (ds:List Drive):Prop where
  hs:DL.hs l1=DL.hs l0
  ds:l1.map Prod.snd=ds
  miss:∀ p ∈ l1,p.1.miss=p.2.miss
theorem LOk.len {l0 l1:DL} {ds:List Drive} (h:LOk l0 l1 ds):l1.length=ds.length := by rw [← h.ds]; simp
theorem zop {l0 l1:DL} {ds:List Drive} (h:LOk l0 l1 ds) (i:Nat) (hi:i < ds.length) {R:List HP} :
    Ent (DOwn l1::R) (sl tyU ((DL.hs l0).getD i dH0).now.v (ds.getD i d0).now::sl tyU ((DL.hs l0).getD i dH0).dur.v (ds.getD i d0).dur::DRest l1 i::R) := by
  rw [← h.hs]
  exact zfr (s:=⟨ds,[],[],0,false,0⟩) i h.ds hi
theorem zno {l0 l1:DL} {ds:List Drive} (h:LOk l0 l1 ds) (i:Nat) (y:Drive) (hi:i < ds.length) {R:List HP} :
    Ent (sl tyU ((DL.hs l0).getD i dH0).now.v y.now::sl tyU ((DL.hs l0).getD i dH0).dur.v y.dur::DRest l1 i::R) (DOwn (l1.set i ((DL.hs l0).getD i dH0,y))::R) :=
  zks ((DL.hs l0).getD i dH0,y) (by rw [h.len]; exact hi)
theorem LOk.set {l0 l1:DL} {ds:List Drive} (h:LOk l0 l1 ds) (i:Nat) (y:Drive) (hi:i < ds.length) (hy:y.miss=(ds.getD i d0).miss):LOk l0 (l1.set i ((DL.hs l0).getD i dH0,y)) (ds.set i y) where
  hs := by rw [← h.hs]; exact hs_set
  ds := by rw [List.map_set,h.ds]
  miss := fun p hp=>by
    rcases List.mem_or_eq_of_mem_set hp with hp | rfl
    · exact h.miss p hp
    · rw [← h.hs]
      have := zpr (s:=⟨ds,[],[],0,false,0⟩) h.ds h.miss hi
      exact this.trans hy.symm
theorem zu2 {b r:Nat} {s':ArrS} {dv lv:Sl3} {l0 l1:DL} (h:LOk l0 l1 s'.drv) (hw:ArrWF s') {R:List HP} :
    Ent (blk b 73 [dv.v,.map (some r),lv.v,.int .i64 (s'.fuse:Int),.bool s'.down,.int .i64 (s'.writes:Int)]::sl tyDrv dv.v (DL.hs l0)::DOwn l1::sl tyRec lv.v s'.log::mpc mBad r s'.bad::R) (Arr b s' :: R) :=
  Ent.trans (Ent.take del0 (Ent.takeC del0 (congrArg (sl tyDrv dv.v) h.hs.symm) Ent.refl)) (zcl h.ds h.miss hw)
def putD (ds:List Drive) (r:Rec):List Drive := ds.set r.d { ds.getD r.d d0 with dur := (ds.getD r.d d0).dur.set r.a r.v }
def rsGo (ks:List Bool):Nat→List Rec→List Drive→List Drive
  | _,[],ds=>ds
  | n,r::log,ds=>rsGo ks (n + 1) log (if ks.getD n false=true then putD ds r else ds)
theorem zqt (ks:List Bool):∀ (log:List Rec) (n:Nat) (ds:List Drive) (r:Rec),rsGo ks n (log ++ [r]) ds=if ks.getD (n + log.length) false=true then putD (rsGo ks n log ds) r else rsGo ks n log ds
  | [],n,ds,r=>by simp [rsGo]
  | x::log,n,ds,r=>by
    simp only [List.cons_append,rsGo,List.length_cons]
    rw [zqt ks log (n + 1)]
    rw [show n + 1 + log.length=n + (log.length + 1) by omega]
theorem zl4 {ks:List Bool} {log:List Rec} {k:Nat} {ds:List Drive} (hk:k < log.length):rsGo ks 0 (log.take (k + 1)) ds=if ks.getD k false=true then putD (rsGo ks 0 (log.take k) ds) (log.getD k r0) else rsGo ks 0 (log.take k) ds := by
  rw [takeR log k hk,zqt]
  simp only [List.length_take,Nat.zero_add,Nat.min_eq_left (Nat.le_of_lt hk)]
theorem ztl {α:Type} {l:List α} {i:Nat} {x:α} (h:l.length≤i):l.getD i x=x := by simp [List.getD,h]
theorem zqu (ds:List Drive) (r:Rec) (j:Nat):(putD ds r).length=ds.length∧((putD ds r).getD j d0).now=(ds.getD j d0).now∧((putD ds r).getD j d0).dur.length=(ds.getD j d0).dur.length∧((putD ds r).getD j d0).miss=(ds.getD j d0).miss := by
  refine ⟨by simp [putD],?_⟩
  unfold putD
  by_cases hr:r.d < ds.length
  · rw [zr8 hr]; split
    · rename_i h; subst h; simp
    · exact ⟨rfl,rfl,rfl⟩
  · rw [List.set_eq_of_length_le (by omega)]; exact ⟨rfl,rfl,rfl⟩
theorem ze3 (ks:List Bool):∀ (log:List Rec) (n:Nat) (ds:List Drive) (j:Nat),(rsGo ks n log ds).length=ds.length∧((rsGo ks n log ds).getD j d0).now=(ds.getD j d0).now∧((rsGo ks n log ds).getD j d0).dur.length=(ds.getD j d0).dur.length∧((rsGo ks n log ds).getD j d0).miss=(ds.getD j d0).miss
  | [],_,_,_=>⟨rfl,rfl,rfl,rfl⟩
  | r::log,n,ds,j=>by
    have h := ze3 ks log (n + 1) (if ks.getD n false=true then putD ds r else ds) j
    simp only [rsGo]
    by_cases hk:ks.getD n false=true
    · rw [if_pos hk] at h ⊢
      have := zqu ds r j
      exact ⟨h.1.trans this.1,h.2.1.trans this.2.1,h.2.2.1.trans this.2.2.1,h.2.2.2.trans this.2.2.2⟩
    · rw [if_neg hk] at h ⊢; exact h
def settleD (d:Drive):Drive := { d with now := d.dur }
def stl (n:Nat) (D:List Drive):List Drive := (D.take n).map settleD ++ D.drop n
theorem zxy (D:List Drive):stl 0 D=D := by simp [stl]
theorem z0l (D:List Drive):stl D.length D=D.map settleD := by simp [stl]
theorem z0m (n:Nat) (D:List Drive):(stl n D).length=D.length := by simp [stl]; omega
theorem stl_at {n:Nat} {D:List Drive} (hn:n < D.length):(stl n D).getD n d0=D.getD n d0 := by
  have:((D.take n).map settleD).length=n := by simp; omega
  simp only [stl,List.getD]
  rw [List.getElem?_append_right (by omega),this]; simp
theorem zxz {n:Nat} {D:List Drive} (hn:n < D.length):(stl n D).set n (settleD (D.getD n d0))=stl (n + 1) D := by
  have h1:((D.take n).map settleD).length=n := by simp; omega
  simp only [stl]
  rw [List.set_append,if_neg (by omega),h1,Nat.sub_self,List.drop_eq_getElem_cons hn,List.set_cons_zero,List.take_succ_eq_append_getElem hn,List.map_append,List.append_assoc,show D.getD n d0=D[n] by simp [List.getD,hn]]
  rfl
theorem zv5 {α:Type} {xs ys:List α} (h:ys.length=xs.length):zfo xs ys=ys := by
  rw [zfo,h,Nat.min_self,List.drop_length,List.append_nil, ← h,List.take_length]
def rsS (s:ArrS) (ks:List Bool):ArrS := { s with drv := (rsGo ks 0 s.log s.drv).map settleD,log := [],down := false,fuse := 0 }
theorem rs_at (s:ArrS) (ks:List Bool) (i:Nat):(rsS s ks).drv.getD i d0=settleD ((rsGo ks 0 s.log s.drv).getD i d0) := by
  simp only [rsS,List.getD,List.getElem?_map]; cases (rsGo ks 0 s.log s.drv)[i]? <;> rfl
theorem wf_rs {s:ArrS} (hw:ArrWF s) (ks:List Bool):ArrWF (rsS s ks) where
  cnt := by have := (ze3 ks s.log 0 s.drv 0).1; simp [rsS,this]; exact hw.cnt
  same := fun i hi=>by
    have h := ze3 ks s.log 0 s.drv i
    have hi':i < s.drv.length := by simpa [rsS,h.1] using hi
    have := hw.same i hi'
    rw [rs_at]
    refine ⟨rfl,?_⟩
    show ((rsGo ks 0 s.log s.drv).getD i d0).dur.length≤_
    rw [h.2.2.1, ← this.1]; exact this.2
  log := fun i hi=>by simp [rsS] at hi
  len := by simp [rsS]
  fuse := by simp [rsS]
theorem c_Read {W:World} {b:Nat} {s:ArrS} {d a:Int} :
    CSpec Tryz.prog W 247 [ptr b 0,.int .i64 d,.int .i64 a] [Arr b s] (fun _:Unit => .tuple #[.int .u64 ((rdV s d a).toNat:Int),.int .i64 (rdC s d a)]) (fun _=>True) (fun _ F=>Arr b s::F) := by
 refine CSpec.of_body Tryz.func247 rfl Tryz.ntmps247 rfl fun F => ?_
 show CJ _ _ _ _ _ _ (_::F)
 refine sR<|oA rfl<|oA rfl<|nT<|zab<|sR<|oM rfl<|oM rfl<|oP (zbk rfl (znl _ _))<|oM rfl<|oP (zbb rfl rfl)<|oM rfl<|oP (zbb rfl rfl)<|oM rfl<|oP (zbb rfl rfl)<|oM rfl<|oP (zbb rfl rfl)<|oM rfl<|oP (zbb rfl rfl)<|oO<|za4 rfl (zl1 _ _ _ _ _ _ _ _ _ _ _ _ _ _ _) rfl fun b1=>zcg (Ent.trans r_ (zb5 (t:=tyFn) (m:=5) [(250,ptr b 0),(251,ptr b 0),(253,ptr b 0),(252,ptr b 0),(254,ptr b 0)] rfl rfl rfl (by decide)))<|oO<|zai (c_chk5 (Reads.sl _ _ _)) rfl Tryz.call249 (Dels.cons del0 (dC_ del0)) rfl fun _ hc2=>oA rfl<|nT<|sR<|oM rfl<|oP (P_neq rfl rfl)<|nT ?_
 first | (refine zav rfl (fun hg1 => ?_) (fun hg1 => ?_)) | (refine zaw rfl (fun hg1 => ?_) (fun hg1 => ?_)) | (refine za1 rfl (fun hg1 => ?_) (fun hg1 => ?_))
 ·
  refine sR<|oM rfl<|oA rfl<|oA rfl<|nT<|zaf<|zak<|zan (res2 Tryz.results247 rfl rfl)<|CSpec.close () ?_ ?_ (t1_ (e_ r_))
  · exact tupRd0 hg1
  · trivial
 ·
  obtain ⟨g1,i,k,rfl,rfl,g2,g3⟩ := rd_ok (Decidable.not_not.1 hg1)
  replace hg1 := Decidable.not_not.1 hg1
  refine kT<|zab<|zc7 (Ent.transX (t1_ r_) zdq) fun ⟨dv,lv,mr,l⟩=>zdk fun hX => ?_
  obtain ⟨hl,hm,hw⟩:l.map Prod.snd=(s).drv∧(∀ p ∈ l,p.1.miss=p.2.miss)∧ArrWF (s) := hX
  show CJ _ _ _ _ _ _ (blk b 73 [Sl3.v dv,.map (some mr),Sl3.v lv,_,_,_]::sl tyDrv (Sl3.v dv) (DL.hs l)::DOwn l::sl tyRec (Sl3.v lv) _::mpc mBad mr _::_)
  have hn := zfc hl
  have hwF := hw.fuse
  have hwL := hw.len
  have hwC := hw.cnt
  refine zbs (Ent.trans (t2_ r_) (zfr i hl (by omega)))<|zag<|oM rfl<|oP (zad rfl)<|oP (zaa rfl ⟨_,_,_,Tryz.runUnderlying73,rfl,rfl,Tryz.sizeOf70,rfl⟩)<|oV (zac rfl foc3 rfl Tryz.isAgg70)<|oM rfl ?_
  first | (refine RJ_op rfl (OJ_V (zam rfl rfl rfl (by omega) foc4 (Reads.sl _ _ _) Tryz.runUnderlying70 Tryz.sizeOf75) rfl ?_)) | (refine RJ_op rfl (OJ_V (zam rfl rfl (Int.toNat_of_nonneg (by omega)).symm (by omega) foc4 (Reads.sl _ _ _) Tryz.runUnderlying70 Tryz.sizeOf75) rfl ?_))
  refine oP (zbl rfl ⟨_,_,_,Tryz.runUnderlying75,rfl,rfl,Tryz.sizeOf44,rfl⟩)<|oV (za6 rfl rfl (by omega) foc4 (Reads.sl _ _ _) rfl rfl Tryz.isAgg44)<|oM rfl ?_
  first | (refine RJ_op rfl (OJ_V (zam rfl rfl rfl (by omega) foc0 (Reads.sl _ _ _) Tryz.runUnderlying44 Tryz.sizeOf47) rfl ?_)) | (refine RJ_op rfl (OJ_V (zam rfl rfl (Int.toNat_of_nonneg (by omega)).symm (by omega) foc0 (Reads.sl _ _ _) Tryz.runUnderlying44 Tryz.sizeOf47) rfl ?_))
  refine oV (za6 rfl rfl (by omega) foc0 (Reads.sl _ _ _) rfl rfl Tryz.isAgg47)<|oA rfl<|oA rfl<|nT<|zaf<|zan (res2 Tryz.results247 rfl rfl)<|CSpec.close () ?_ ?_ (Ent.trans (Ent.trans r_ (zlx hl (by omega))) (Ent.trans (Ent.trans (t1_ (t1_ r_)) (zcl hl hm hw)) (t0_ (e_ r_))))
  · exact tupRd hg1
  · trivial
theorem z0n {W:World} {b:Nat} {s:ArrS} {d a:Int} {v:UInt64} (hW:s.writes≤1000000000) :
    CSpec Tryz.prog W 248 [ptr b 0,.int .i64 d,.int .i64 a,.int .u64 (v.toNat:Int)] [Arr b s] (fun _:Unit => .int .i64 (wrR s d a)) (fun _=>True) (fun _ F=>Arr b (wrS s d a v)::F) := by
 refine CSpec.of_body Tryz.func248 rfl Tryz.ntmps248 rfl fun F => ?_
 show CJ _ _ _ _ _ _ (_::F)
 refine sR<|oA rfl<|nT<|sR<|oM rfl<|oM rfl<|oP (zbk rfl (znl _ _))<|oO<|zbi Tryz.zeroValue162 rfl rfl fun b1=>oO<|zbo rfl rfl foc0 Tryz.sizeOf162 rfl rfl rfl<|nT<|zab<|sR<|oV (zbq rfl foc0 Tryz.isAgg162 Tryz.sizeOf162 rfl rfl)<|oM rfl<|oP (zbb rfl rfl)<|oM rfl<|oP (zbb rfl rfl)<|oM rfl<|oP (zbb rfl rfl)<|oM rfl<|oP (zbb rfl rfl)<|oO<|za4 rfl (znx _ _ _ _ _ _ _ _ _ _ _ _) rfl fun b2=>zcg (Ent.trans r_ (zb5 (t:=tyFn) (m:=4) [(250,ptr b 0),(251,ptr b 0),(253,ptr b 0),(252,ptr b 0)] rfl rfl rfl (by decide)))<|oO<|zai (c_chk4 (Reads.sl _ _ _)) rfl Tryz.call249 (Dels.cons del0 (dC_ del1)) rfl fun _ hc3=>oA rfl<|nT<|sR<|oM rfl<|oP (P_neq rfl rfl)<|nT ?_
 first | (refine zav rfl (fun hg1 => ?_) (fun hg1 => ?_)) | (refine zaw rfl (fun hg1 => ?_) (fun hg1 => ?_)) | (refine za1 rfl (fun hg1 => ?_) (fun hg1 => ?_))
 ·
  refine sR<|oM rfl<|oA rfl<|nT<|zaf<|zak<|zan (res1 Tryz.results248 rfl)<|CSpec.close () ?_ ?_ (Ent.takeC del1 (congrArg (Arr b) (z0i hg1).symm) (e_ (e_ r_)))
  · exact iv (z0j hg1).symm
  · trivial
 ·
  have hC := Decidable.not_not.1 hg1
  obtain ⟨g1,i,k,rfl,rfl,g2,g3⟩ := wr_ok hC
  refine kT<|zab<|zab<|zc7 (Ent.transX (t1_ r_) zdq) fun ⟨dv,lv,mr,l⟩=>zdk fun hX => ?_
  obtain ⟨hl,hm,hw⟩:l.map Prod.snd=(s).drv∧(∀ p ∈ l,p.1.miss=p.2.miss)∧ArrWF (s) := hX
  show CJ _ _ _ _ _ _ (blk b 73 [Sl3.v dv,.map (some mr),Sl3.v lv,_,_,_]::sl tyDrv (Sl3.v dv) (DL.hs l)::DOwn l::sl tyRec (Sl3.v lv) _::mpc mBad mr _::_)
  have hn := zfc hl
  have hwF := hw.fuse
  have hwL := hw.len
  have hwC := hw.cnt
  refine zag<|oM rfl<|oP (zad rfl)<|oP (zaa rfl ⟨_,_,_,Tryz.runUnderlying73,rfl,rfl,Tryz.sizeOf3,rfl⟩)<|oV (zac rfl foc0 rfl Tryz.isAgg3)<|oP (P_gtr rfl rfl)<|nT ?_
  first | (refine zav rfl (fun hg2 => ?_) (fun hg2 => ?_)) | (refine zaw rfl (fun hg2 => ?_) (fun hg2 => ?_)) | (refine za1 rfl (fun hg2 => ?_) (fun hg2 => ?_))
  ·
   refine sR<|oM rfl<|oP (zad rfl)<|oP (zaa rfl ⟨_,_,_,Tryz.runUnderlying73,rfl,rfl,Tryz.sizeOf3,rfl⟩)<|oV (zac rfl foc0 rfl Tryz.isAgg3)<|oP (P_sub rfl rfl (by omega))<|oP (zad rfl)<|oP (zaa rfl ⟨_,_,_,Tryz.runUnderlying73,rfl,rfl,Tryz.sizeOf3,rfl⟩)<|oO<|za5 rfl rfl foc0 rfl rfl Tryz.sizeOf3<|nT<|sR<|oM rfl<|oP (zad rfl)<|oP (zaa rfl ⟨_,_,_,Tryz.runUnderlying73,rfl,rfl,Tryz.sizeOf3,rfl⟩)<|oV (zac rfl foc0 rfl Tryz.isAgg3)<|oP (P_eql rfl rfl)<|nT ?_
   first | (refine zav rfl (fun hg3 => ?_) (fun hg3 => ?_)) | (refine zaw rfl (fun hg3 => ?_) (fun hg3 => ?_)) | (refine za1 rfl (fun hg3 => ?_) (fun hg3 => ?_))
   ·
    refine zab ?_
    have hF1:s.fuse=1 := by omega
    refine zag<|oM rfl<|oP (zad rfl)<|oP (zaa rfl ⟨_,_,_,Tryz.runUnderlying73,rfl,rfl,Tryz.sizeOf4,rfl⟩)<|oO<|za5 rfl rfl foc0 rfl rfl Tryz.sizeOf4<|nT<|sR<|oA rfl<|nT<|zaf<|zak<|zan (res1 Tryz.results248 rfl) ?_
    rw [zxw hC hF1,zxv hC hF1]
    refine CSpec.close () ?_ ?_ (Ent.trans (Ent.trans (Ent.takeC del0 (arrC (by omega) rfl) r_) (zcl (s := { s with fuse := 0,down := true }) hl hm (zty hw 0 (by omega) true))) (t0_ (e_ (e_ r_))))
    · rfl
    · trivial
   ·
    refine kT<|zab ?_
    have hF1:s.fuse≠1 := by omega
    refine zbs (Ent.trans (t2_ r_) (zfr i hl (by omega)))<|zag<|oM rfl<|oP (zad rfl)<|oP (zaa rfl ⟨_,_,_,Tryz.runUnderlying73,rfl,rfl,Tryz.sizeOf70,rfl⟩)<|oV (zac rfl foc3 rfl Tryz.isAgg70)<|oM rfl ?_
    first | (refine RJ_op rfl (OJ_V (zam rfl rfl rfl (by omega) foc4 (Reads.sl _ _ _) Tryz.runUnderlying70 Tryz.sizeOf75) rfl ?_)) | (refine RJ_op rfl (OJ_V (zam rfl rfl (Int.toNat_of_nonneg (by omega)).symm (by omega) foc4 (Reads.sl _ _ _) Tryz.runUnderlying70 Tryz.sizeOf75) rfl ?_))
    refine oP (zbl rfl ⟨_,_,_,Tryz.runUnderlying75,rfl,rfl,Tryz.sizeOf44,rfl⟩)<|oV (za6 rfl rfl (by omega) foc4 (Reads.sl _ _ _) rfl rfl Tryz.isAgg44)<|oM rfl<|oM rfl ?_
    first | (refine RJ_op rfl (OJ_V (zam rfl rfl rfl (by omega) foc0 (Reads.sl _ _ _) Tryz.runUnderlying44 Tryz.sizeOf47) rfl ?_)) | (refine RJ_op rfl (OJ_V (zam rfl rfl (Int.toNat_of_nonneg (by omega)).symm (by omega) foc0 (Reads.sl _ _ _) Tryz.runUnderlying44 Tryz.sizeOf47) rfl ?_))
    refine oO<|zcb (x' := _) rfl rfl rfl (by omega) foc0 rfl rfl rfl Tryz.sizeOf47<|nT<|zab<|za3 32 kR_ rfl<|aN 0 1 rfl rfl (zae rfl)<|aN 1 3 rfl rfl (zad rfl)<|aN 2 7 rfl rfl (zaa rfl ⟨_,_,_,Tryz.runUnderlying73,rfl,rfl,Tryz.sizeOf69,rfl⟩)<|aW 3 15 rfl rfl r_ (zac rfl foc3 rfl Tryz.isAgg69)<|aW 4 31 rfl rfl r_ (zbq rfl foc8 Tryz.isAgg162 Tryz.sizeOf162 rfl rfl)<|AJ_op 5 63 rfl kR_ rfl (zal rfl)<|znt (M:=mBad) (k:=((i:Int),(k:Int))) rfl rfl foc6 zmq<|⟨fun h=>absurd h (by decide),?_⟩
    refine aD<|zab<|za3 4608 kR_ rfl<|aN 0 1 rfl rfl (zae rfl)<|aN 1 3 rfl rfl (zae rfl)<|aN 2 7 rfl rfl (zad rfl)<|aN 3 15 rfl rfl (zaa rfl ⟨_,_,_,Tryz.runUnderlying73,rfl,rfl,Tryz.sizeOf71,rfl⟩)<|aW 4 31 rfl rfl r_ (zac rfl foc3 rfl Tryz.isAgg71)<|aW 5 63 rfl rfl r_ (zbq rfl foc8 Tryz.isAgg162 Tryz.sizeOf162 rfl rfl)<|aN 6 127 rfl rfl (zae rfl)<|aN 7 255 rfl rfl (zbk rfl (znm _ _ _))<|AJ_op 8 511 rfl kR_ rfl (zal rfl)<|za4 rfl (zl2 _ _ _) rfl fun b4=>⟨fun _=>(t1_ (t1_ (t1_ (t1_ (t1_ (t1_ (t1_ (t1_ (t1_ (e_ r_)))))))))),?_⟩
    refine AJ_op 9 1023 rfl kR_ rfl (zal rfl)<|zb1 (t:=tyRec) (bytes:=24) rfl rfl del6 foc0 (Reads.lit (t:=tyRec) (ys:=[⟨i,k,v⟩]) rfl rfl (by decide) (by decide) rfl) Tryz.underlying71 znw (by simp only [List.length_append,List.length_cons,List.length_nil,maxLen] at *; omega) (by simp only [List.length_append,List.length_cons,List.length_nil,maxLen] at *; omega) rfl fun p5 c6=>⟨fun h=>absurd h (by decide),?_⟩
    refine aN 10 2047 rfl rfl (zad rfl)<|aN 11 4095 rfl rfl (zaa rfl ⟨_,_,_,Tryz.runUnderlying73,rfl,rfl,Tryz.sizeOf71,rfl⟩)<|AJ_op 12 8191 rfl kR_ rfl (zal rfl)<|za5 rfl rfl foc5 rfl rfl Tryz.sizeOf71<|⟨fun h=>absurd h (by decide),?_⟩
    refine aD<|sR<|oM rfl<|oP (zad rfl)<|oP (zaa rfl ⟨_,_,_,Tryz.runUnderlying73,rfl,rfl,Tryz.sizeOf3,rfl⟩)<|oV (zac rfl foc5 rfl Tryz.isAgg3)<|oP (P_add rfl rfl (by omega))<|oP (zad rfl)<|oP (zaa rfl ⟨_,_,_,Tryz.runUnderlying73,rfl,rfl,Tryz.sizeOf3,rfl⟩)<|oO<|za5 rfl rfl foc5 rfl rfl Tryz.sizeOf3<|nT<|sR<|oA rfl<|nT<|zaf<|zan (res1 Tryz.results248 rfl) ?_
    rw [zv4 hC hF1,zv3 hC hF1]
    refine CSpec.close () ?_ ?_ (Ent.trans (Ent.trans (Ent.takeC del5 (arrC (by dsimp only; omega) (by dsimp only; omega)) (t5_ (t2_ (t2_ (t2_ (t0_ (t1_ r_))))))) (zik (s' := { s with drv := zdc s i k v,bad := delM s.bad (i,k),log := s.log ++ [⟨i,k,v⟩],fuse := s.fuse - 1,writes := s.writes + 1 }) (lv:=⟨p5,_,c6⟩) i _ hl hm (by omega) rfl rfl (wf_wr hw (by omega) g3 _ _ (by omega)))) (t0_ (e_ (e_ (e_ r_)))))
    · rfl
    · trivial
  ·
   refine kT<|zab ?_
   have hF1:s.fuse≠1 := by omega
   refine zbs (Ent.trans (t2_ r_) (zfr i hl (by omega)))<|zag<|oM rfl<|oP (zad rfl)<|oP (zaa rfl ⟨_,_,_,Tryz.runUnderlying73,rfl,rfl,Tryz.sizeOf70,rfl⟩)<|oV (zac rfl foc3 rfl Tryz.isAgg70)<|oM rfl ?_
   first | (refine RJ_op rfl (OJ_V (zam rfl rfl rfl (by omega) foc4 (Reads.sl _ _ _) Tryz.runUnderlying70 Tryz.sizeOf75) rfl ?_)) | (refine RJ_op rfl (OJ_V (zam rfl rfl (Int.toNat_of_nonneg (by omega)).symm (by omega) foc4 (Reads.sl _ _ _) Tryz.runUnderlying70 Tryz.sizeOf75) rfl ?_))
   refine oP (zbl rfl ⟨_,_,_,Tryz.runUnderlying75,rfl,rfl,Tryz.sizeOf44,rfl⟩)<|oV (za6 rfl rfl (by omega) foc4 (Reads.sl _ _ _) rfl rfl Tryz.isAgg44)<|oM rfl<|oM rfl ?_
   first | (refine RJ_op rfl (OJ_V (zam rfl rfl rfl (by omega) foc0 (Reads.sl _ _ _) Tryz.runUnderlying44 Tryz.sizeOf47) rfl ?_)) | (refine RJ_op rfl (OJ_V (zam rfl rfl (Int.toNat_of_nonneg (by omega)).symm (by omega) foc0 (Reads.sl _ _ _) Tryz.runUnderlying44 Tryz.sizeOf47) rfl ?_))
   refine oO<|zcb (x' := _) rfl rfl rfl (by omega) foc0 rfl rfl rfl Tryz.sizeOf47<|nT<|zab<|za3 32 kR_ rfl<|aN 0 1 rfl rfl (zae rfl)<|aN 1 3 rfl rfl (zad rfl)<|aN 2 7 rfl rfl (zaa rfl ⟨_,_,_,Tryz.runUnderlying73,rfl,rfl,Tryz.sizeOf69,rfl⟩)<|aW 3 15 rfl rfl r_ (zac rfl foc3 rfl Tryz.isAgg69)<|aW 4 31 rfl rfl r_ (zbq rfl foc8 Tryz.isAgg162 Tryz.sizeOf162 rfl rfl)<|AJ_op 5 63 rfl kR_ rfl (zal rfl)<|znt (M:=mBad) (k:=((i:Int),(k:Int))) rfl rfl foc6 zmq<|⟨fun h=>absurd h (by decide),?_⟩
   refine aD<|zab<|za3 4608 kR_ rfl<|aN 0 1 rfl rfl (zae rfl)<|aN 1 3 rfl rfl (zae rfl)<|aN 2 7 rfl rfl (zad rfl)<|aN 3 15 rfl rfl (zaa rfl ⟨_,_,_,Tryz.runUnderlying73,rfl,rfl,Tryz.sizeOf71,rfl⟩)<|aW 4 31 rfl rfl r_ (zac rfl foc3 rfl Tryz.isAgg71)<|aW 5 63 rfl rfl r_ (zbq rfl foc8 Tryz.isAgg162 Tryz.sizeOf162 rfl rfl)<|aN 6 127 rfl rfl (zae rfl)<|aN 7 255 rfl rfl (zbk rfl (znm _ _ _))<|AJ_op 8 511 rfl kR_ rfl (zal rfl)<|za4 rfl (zl2 _ _ _) rfl fun b7=>⟨fun _=>(t1_ (t1_ (t1_ (t1_ (t1_ (t1_ (t1_ (t1_ (t1_ (e_ r_)))))))))),?_⟩
   refine AJ_op 9 1023 rfl kR_ rfl (zal rfl)<|zb1 (t:=tyRec) (bytes:=24) rfl rfl del6 foc0 (Reads.lit (t:=tyRec) (ys:=[⟨i,k,v⟩]) rfl rfl (by decide) (by decide) rfl) Tryz.underlying71 znw (by simp only [List.length_append,List.length_cons,List.length_nil,maxLen] at *; omega) (by simp only [List.length_append,List.length_cons,List.length_nil,maxLen] at *; omega) rfl fun p8 c9=>⟨fun h=>absurd h (by decide),?_⟩
   refine aN 10 2047 rfl rfl (zad rfl)<|aN 11 4095 rfl rfl (zaa rfl ⟨_,_,_,Tryz.runUnderlying73,rfl,rfl,Tryz.sizeOf71,rfl⟩)<|AJ_op 12 8191 rfl kR_ rfl (zal rfl)<|za5 rfl rfl foc5 rfl rfl Tryz.sizeOf71<|⟨fun h=>absurd h (by decide),?_⟩
   refine aD<|sR<|oM rfl<|oP (zad rfl)<|oP (zaa rfl ⟨_,_,_,Tryz.runUnderlying73,rfl,rfl,Tryz.sizeOf3,rfl⟩)<|oV (zac rfl foc5 rfl Tryz.isAgg3)<|oP (P_add rfl rfl (by omega))<|oP (zad rfl)<|oP (zaa rfl ⟨_,_,_,Tryz.runUnderlying73,rfl,rfl,Tryz.sizeOf3,rfl⟩)<|oO<|za5 rfl rfl foc5 rfl rfl Tryz.sizeOf3<|nT<|sR<|oA rfl<|nT<|zaf<|zan (res1 Tryz.results248 rfl) ?_
   rw [zv4 hC hF1,zv3 hC hF1]
   refine CSpec.close () ?_ ?_ (Ent.trans (Ent.trans (Ent.takeC del5 (arrC (by dsimp only; omega) (by dsimp only; omega)) (t5_ (t2_ (t2_ (t2_ (t0_ (t1_ r_))))))) (zik (s' := { s with drv := zdc s i k v,bad := delM s.bad (i,k),log := s.log ++ [⟨i,k,v⟩],fuse := s.fuse - 1,writes := s.writes + 1 }) (lv:=⟨p8,_,c9⟩) i _ hl hm (by omega) rfl rfl (wf_wr hw (by omega) g3 _ _ (by omega)))) (t0_ (e_ (e_ (e_ r_)))))
   · rfl
   · trivial
theorem zx0 {W:World} {b:Nat} {s:ArrS} :
    CSpec Tryz.prog W 39 [ptr b 0] [Arr b s] (fun _:Unit => .int .i64 (s.drv.length:Int)) (fun _=>True) (fun _ F=>Arr b s::F) := by
 refine CSpec.of_body Tryz.func39 rfl Tryz.ntmps39 rfl fun F => ?_
 show CJ _ _ _ _ _ _ (_::F)
 refine zc7 (Ent.transX r_ zdq) fun ⟨dv,lv,mr,l⟩=>zdk fun hX => ?_
 obtain ⟨hl,hm,hw⟩:l.map Prod.snd=(s).drv∧(∀ p ∈ l,p.1.miss=p.2.miss)∧ArrWF (s) := hX
 show CJ _ _ _ _ _ _ (blk b 73 [Sl3.v dv,.map (some mr),Sl3.v lv,_,_,_]::sl tyDrv (Sl3.v dv) (DL.hs l)::DOwn l::sl tyRec (Sl3.v lv) _::mpc mBad mr _::_)
 have hn := zfc hl
 have hwF := hw.fuse
 have hwL := hw.len
 have hwC := hw.cnt
 refine sR<|oA rfl<|nT<|sR<|oM rfl<|oP (zad rfl)<|oP (zaa rfl ⟨_,_,_,Tryz.runUnderlying73,rfl,rfl,Tryz.sizeOf70,rfl⟩)<|oV (zac rfl foc0 rfl Tryz.isAgg70)<|oV (V_len rfl foc1 (Reads.sl _ _ _) Tryz.runUnderlying70)<|oA rfl<|nT<|zaf<|zan (res1 Tryz.results39 rfl)<|CSpec.close () ?_ ?_ (Ent.trans (Ent.trans r_ (zcl hl hm hw)) r_)
 · exact iv (by omega)
 · trivial
theorem z0o {W:World} {b:Nat} {s:ArrS} {n:Int} (hN:n≤9223372036854775807) :
    CSpec Tryz.prog W 29 [ptr b 0,.int .i64 n] [Arr b s] (fun _:Unit => .tuple #[]) (fun _=>True) (fun _ F=>Arr b { s with fuse := n.toNat } :: F) := by
 refine CSpec.of_body Tryz.func29 rfl Tryz.ntmps29 rfl fun F => ?_
 show CJ _ _ _ _ _ _ (_::F)
 refine zc7 (Ent.transX r_ zdq) fun ⟨dv,lv,mr,l⟩=>zdk fun hX => ?_
 obtain ⟨hl,hm,hw⟩:l.map Prod.snd=(s).drv∧(∀ p ∈ l,p.1.miss=p.2.miss)∧ArrWF (s) := hX
 show CJ _ _ _ _ _ _ (blk b 73 [Sl3.v dv,.map (some mr),Sl3.v lv,_,_,_]::sl tyDrv (Sl3.v dv) (DL.hs l)::DOwn l::sl tyRec (Sl3.v lv) _::mpc mBad mr _::_)
 have hn := zfc hl
 have hwF := hw.fuse
 have hwL := hw.len
 have hwC := hw.cnt
 refine zag<|oM rfl<|oM rfl<|oP (P_max rfl rfl)<|oP (zad rfl)<|oP (zaa rfl ⟨_,_,_,Tryz.runUnderlying73,rfl,rfl,Tryz.sizeOf3,rfl⟩)<|oO<|za5 rfl rfl foc0 rfl rfl Tryz.sizeOf3<|za0<|zce (res0 Tryz.results29)<|CSpec.close () ?_ ?_ (Ent.trans (Ent.trans (Ent.takeC del0 (arrC (by dsimp only; omega) rfl) r_) (zcl (s := { s with fuse := n.toNat }) hl hm (zty hw n.toNat (by omega) s.down))) r_)
 · rfl
 · trivial
theorem c_New {W:World} {A:HP} {v:Value} {zs:List Int} (hA:Reads A tyI v zs) (hN:NewOk zs) :
    CSpec Tryz.prog W 9 [v] [A] (fun b:Nat => .tuple #[ptr b 0,.int .i64 0]) (fun _=>True) (fun b F=>Arr b (newS zs)::A::F) := by
 have hN1 := hN.1
 refine CSpec.of_body Tryz.func9 rfl Tryz.ntmps9 rfl fun F => ?_
 show CJ _ _ _ _ _ _ (_::F)
 refine sR<|oA rfl<|oA rfl<|nT<|zab<|sR<|oM rfl<|oV (V_len rfl foc0 hA Tryz.runUnderlying22)<|oP (P_gtr rfl rfl)<|nT ?_
 first | (refine zav rfl (fun hg1 => ?_) (fun hg1 => ?_)) | (refine zaw rfl (fun hg1 => ?_) (fun hg1 => ?_)) | (refine za1 rfl (fun hg1 => ?_) (fun hg1 => ?_))
 ·
  exfalso; omega
 ·
  refine kT<|sR<|oO<|ze2 mBad rfl fun b1=>oP (zbk rfl (zr6 _))<|oO<|O_box rfl rfl rfl fun b2=>oA rfl<|nT<|zab<|sR<|oM rfl<|oV (V_len rfl foc2 hA Tryz.runUnderlying22)<|oM rfl<|nT<|zao<|zbs (fun h hh=>zch (t:=tyDrv) h hh)<|zbs zr7<|za8 (X:=Nat × Sl3 × DL) [2,3,6,15,16,17,18,19,20,21,22,23,24,25,26,27,28,29,30,31,32,33,34,35,36,37,38,39] (fun ⟨k,dv,l⟩  => ([(15,.int .i64 (k:Nat))]:Slots)) (fun ⟨k,dv,l⟩ R=>blk b2 73 [dv.v,.map (some b1),.slice none 0 0,.int .i64 0,.bool false,.int .i64 0]::sl tyDrv dv.v (DL.hs l)::DOwn l::R) (fun ⟨k,dv,l⟩  => k≤zs.length∧l.map Prod.snd=(zs.take k).map mkD∧(∀ p ∈ l,p.1.miss=p.2.miss)) (fun ⟨k,dv,l⟩  => zs.length - k) ⟨0,⟨none,0,0⟩,[]⟩ ?_ ?_ (t2_ (t1_ r_)) ?_
  · exact ⟨Nat.zero_le _,rfl,fun p hp=>by cases hp⟩
  · exact ⟨rfl,True.intro⟩
  ·
   rintro ⟨k,dv,l⟩ ⟨hk,hl,hm⟩
   show CJ _ _ _ _ _ (([(15,.int .i64 (k:Nat))]:Slots) ++ forget _ _) (blk b2 73 [dv.v,.map (some b1),.slice none 0 0,.int .i64 0,.bool false,.int .i64 0]::sl tyDrv dv.v (DL.hs l)::DOwn l::_)
   have hz := hN.2 k
   have hlen:l.length=k := by have := congrArg List.length hl; simp at this; omega
   have hlen2:(DL.hs l).length=k := by simp [hlen]
   have hd0 := zvt zs k
   refine sR<|oP (P_lss rfl rfl)<|nT<|zab ?_
   first | (refine zav rfl (fun hg2 => ?_) (fun hg2 => ?_)) | (refine zaw rfl (fun hg2 => ?_) (fun hg2 => ?_)) | (refine za1 rfl (fun hg2 => ?_) (fun hg2 => ?_))
   ·
    refine kT<|zab<|zao<|sR ?_
    first | (refine RJ_op rfl (OJ_V (zam rfl rfl rfl (by omega) foc4 hA Tryz.runUnderlying22 Tryz.sizeOf3) rfl ?_)) | (refine RJ_op rfl (OJ_V (zam rfl rfl (Int.toNat_of_nonneg (by omega)).symm (by omega) foc4 hA Tryz.runUnderlying22 Tryz.sizeOf3) rfl ?_))
    refine oV (za6 rfl rfl (by omega) foc4 hA rfl rfl Tryz.isAgg3)<|oA rfl<|nT<|zab<|sR<|oM rfl<|oP (P_lss rfl rfl)<|oM rfl ?_
    first | (refine zbu 21 rfl (fun hg3B hg3 => ?_) (fun hg3B hg3 => ?_)) | (refine zbv 21 rfl (fun hg3B hg3 => ?_) (fun hg3B hg3 => ?_)) | (refine zb3 21 rfl (fun hg3B => ?_) (fun hg3B => ?_))
    ·
     exfalso; have := hz (by omega); omega
    ·
     refine p_ rfl rfl rfl hg3B (zae rfl)<|p_ rfl rfl rfl hg3B (P_gtr rfl rfl)<|oP (za2 rfl hg3B rfl)<|nT ?_
     first | (refine zav rfl (fun hg4 => ?_) (fun hg4 => ?_)) | (refine zaw rfl (fun hg4 => ?_) (fun hg4 => ?_)) | (refine za1 rfl (fun hg4 => ?_) (fun hg4 => ?_))
     ·
      exfalso; have := hz (by omega); omega
     ·
      refine kT ?_
      have hz := hz (by omega)
      obtain ⟨m,hmz⟩:∃ m:Nat,(m:Int)=zs.getD k tyI.dflt := ⟨(zs.getD k 0).toNat,by omega⟩
      refine za3 18432 kR_ rfl<|aN 0 1 rfl rfl (zae rfl)<|aN 1 3 rfl rfl (zae rfl)<|aN 2 7 rfl rfl (zad rfl)<|aN 3 15 rfl rfl (zaa rfl ⟨_,_,_,Tryz.runUnderlying73,rfl,rfl,Tryz.sizeOf70,rfl⟩)<|aW 4 31 rfl rfl r_ (zac rfl foc0 rfl Tryz.isAgg70)<|aN 5 63 rfl rfl (zae rfl)<|aN 7 191 rfl rfl (zae rfl)<|zg4 6 8 255 447 rfl rfl kR_ rfl rfl (zal rfl) (zal rfl) (zea (t:=tyU) (m:=m) (x0:=0) (z:=_) (bytes:=_) rfl rfl hmz.symm hmz.symm Tryz.underlying44 ⟨Tryz.t47,by kernel_rfl,rfl,rfl,rfl⟩ rfl (by omega) (by decide) rfl (fun b3 => ?_)) (zea (t:=tyU) (m:=m) (x0:=0) (z:=_) (bytes:=_) rfl rfl hmz.symm hmz.symm Tryz.underlying44 ⟨Tryz.t47,by kernel_rfl,rfl,rfl,rfl⟩ rfl (by omega) (by decide) rfl (fun b4 => ?_))
      ·
       refine ⟨fun _=>(t1_ (t1_ (t1_ (t1_ (t1_ (e_ r_)))))),?_⟩
       refine AJ_op 8 511 rfl kR_ rfl (zal rfl)<|zea (t:=tyU) (m:=m) (x0:=0) (z:=_) (bytes:=_) rfl rfl hmz.symm hmz.symm Tryz.underlying44 ⟨Tryz.t47,by kernel_rfl,rfl,rfl,rfl⟩ rfl (by omega) (by decide) rfl fun b5=>⟨fun _=>(t2_ (t2_ (t2_ (t2_ (t2_ (e_ (e_ r_))))))),?_⟩
       refine aN 9 1023 rfl rfl (zbk rfl (zij _ _ _ _ _ _))<|AJ_op 10 2047 rfl kR_ rfl (zal rfl)<|za4 rfl (zje _ _ _ _ _ _ _) rfl fun b6=>⟨fun _=>(t3_ (t3_ (t3_ (t3_ (t3_ (e_ (e_ (e_ r_)))))))),?_⟩
       refine AJ_op 11 4095 rfl kR_ rfl (zal rfl)<|zb1 (t:=tyDrv) (bytes:=56) rfl rfl del4 foc0 (Reads.lit (t:=tyDrv) (ys:=[⟨⟨some ⟨b3,0,none⟩,m,m⟩,⟨some ⟨b5,0,none⟩,m,m⟩,false⟩]) rfl rfl (by decide) (by decide) rfl) Tryz.underlying70 zkr (by simp only [List.length_append,List.length_cons,List.length_nil,maxLen] at *; omega) (by simp only [List.length_append,List.length_cons,List.length_nil,maxLen] at *; omega) rfl fun p7 c8=>⟨fun h=>absurd h (by decide),?_⟩
       refine aN 12 8191 rfl rfl (zad rfl)<|aN 13 16383 rfl rfl (zaa rfl ⟨_,_,_,Tryz.runUnderlying73,rfl,rfl,Tryz.sizeOf70,rfl⟩)<|AJ_op 14 32767 rfl kR_ rfl (zal rfl)<|za5 rfl rfl foc4 rfl rfl Tryz.sizeOf70<|⟨fun h=>absurd h (by decide),?_⟩
       refine zcf kR_<|zah<|zar<|zag<|oP (P_add rfl rfl (by omega))<|oM rfl<|za0<|zba ⟨k + 1,⟨p7,_,c8⟩,l ++ [((⟨⟨some ⟨b3,0,none⟩,m,m⟩,⟨some ⟨b5,0,none⟩,m,m⟩,false⟩:DrvH),(⟨List.replicate m 0,List.replicate m 0,false⟩:Drive))]⟩ (by first | omega | (simp only []; omega)) ?_ kP_ ?_ (Ent.trans (Ent.trans (t3_ (t2_ (t3_ r_))) (zjf ((⟨⟨some ⟨b3,0,none⟩,m,m⟩,⟨some ⟨b5,0,none⟩,m,m⟩,false⟩:DrvH),(⟨List.replicate m 0,List.replicate m 0,false⟩:Drive)))) (t3_ (Ent.takeC del1 (congrArg (sl tyDrv _) (zmr l ((⟨⟨some ⟨b3,0,none⟩,m,m⟩,⟨some ⟨b5,0,none⟩,m,m⟩,false⟩:DrvH),(⟨List.replicate m 0,List.replicate m 0,false⟩:Drive))).symm) (t0_ (t1_ (t1_ (e_ r_)))))))
       ·
        refine ⟨by omega,?_,?_⟩
        · have e:mkD (zs.getD k 0)=⟨List.replicate m 0,List.replicate m 0,false⟩ := by
            rw [mkD, ← hd0, ← hmz]; rfl
          rw [zhy zs k (by omega),List.map_append,List.map_append,hl]
          show _ ++ [_]=_ ++ [mkD _]
          rw [e]
        · intro p hp
          rcases List.mem_append.1 hp with hp | hp
          · exact hm p hp
          · simp at hp; subst hp; rfl
       · exact ⟨rfl,True.intro⟩
      ·
       refine ⟨fun _=>(t1_ (t1_ (t1_ (t1_ (t1_ (e_ r_)))))),?_⟩
       refine AJ_op 6 511 rfl kR_ rfl (zal rfl)<|zea (t:=tyU) (m:=m) (x0:=0) (z:=_) (bytes:=_) rfl rfl hmz.symm hmz.symm Tryz.underlying44 ⟨Tryz.t47,by kernel_rfl,rfl,rfl,rfl⟩ rfl (by omega) (by decide) rfl fun b9=>⟨fun _=>(t2_ (t2_ (t2_ (t2_ (t2_ (e_ (e_ r_))))))),?_⟩
       refine aN 9 1023 rfl rfl (zbk rfl (zij _ _ _ _ _ _))<|AJ_op 10 2047 rfl kR_ rfl (zal rfl)<|za4 rfl (zje _ _ _ _ _ _ _) rfl fun b10=>⟨fun _=>(t3_ (t3_ (t3_ (t3_ (t3_ (e_ (e_ (e_ r_)))))))),?_⟩
       refine AJ_op 11 4095 rfl kR_ rfl (zal rfl)<|zb1 (t:=tyDrv) (bytes:=56) rfl rfl del4 foc0 (Reads.lit (t:=tyDrv) (ys:=[⟨⟨some ⟨b9,0,none⟩,m,m⟩,⟨some ⟨b4,0,none⟩,m,m⟩,false⟩]) rfl rfl (by decide) (by decide) rfl) Tryz.underlying70 zkr (by simp only [List.length_append,List.length_cons,List.length_nil,maxLen] at *; omega) (by simp only [List.length_append,List.length_cons,List.length_nil,maxLen] at *; omega) rfl fun p11 c12=>⟨fun h=>absurd h (by decide),?_⟩
       refine aN 12 8191 rfl rfl (zad rfl)<|aN 13 16383 rfl rfl (zaa rfl ⟨_,_,_,Tryz.runUnderlying73,rfl,rfl,Tryz.sizeOf70,rfl⟩)<|AJ_op 14 32767 rfl kR_ rfl (zal rfl)<|za5 rfl rfl foc4 rfl rfl Tryz.sizeOf70<|⟨fun h=>absurd h (by decide),?_⟩
       refine zcf kR_<|zah<|zar<|zag<|oP (P_add rfl rfl (by omega))<|oM rfl<|za0<|zba ⟨k + 1,⟨p11,_,c12⟩,l ++ [((⟨⟨some ⟨b9,0,none⟩,m,m⟩,⟨some ⟨b4,0,none⟩,m,m⟩,false⟩:DrvH),(⟨List.replicate m 0,List.replicate m 0,false⟩:Drive))]⟩ (by first | omega | (simp only []; omega)) ?_ kP_ ?_ (Ent.trans (Ent.trans (t2_ (t2_ (t3_ r_))) (zjf ((⟨⟨some ⟨b9,0,none⟩,m,m⟩,⟨some ⟨b4,0,none⟩,m,m⟩,false⟩:DrvH),(⟨List.replicate m 0,List.replicate m 0,false⟩:Drive)))) (t3_ (Ent.takeC del1 (congrArg (sl tyDrv _) (zmr l ((⟨⟨some ⟨b9,0,none⟩,m,m⟩,⟨some ⟨b4,0,none⟩,m,m⟩,false⟩:DrvH),(⟨List.replicate m 0,List.replicate m 0,false⟩:Drive))).symm) (t0_ (t1_ (t1_ (e_ r_)))))))
       ·
        refine ⟨by omega,?_,?_⟩
        · have e:mkD (zs.getD k 0)=⟨List.replicate m 0,List.replicate m 0,false⟩ := by
            rw [mkD, ← hd0, ← hmz]; rfl
          rw [zhy zs k (by omega),List.map_append,List.map_append,hl]
          show _ ++ [_]=_ ++ [mkD _]
          rw [e]
        · intro p hp
          rcases List.mem_append.1 hp with hp | hp
          · exact hm p hp
          · simp at hp; subst hp; rfl
       · exact ⟨rfl,True.intro⟩
   ·
    refine zbc<|zay<|zau<|zat<|zar<|sR<|oM rfl<|oA rfl<|oA rfl<|nT<|zaf<|zan (res2 Tryz.results9 rfl rfl) ?_
    obtain rfl:k=zs.length := by omega
    rw [List.take_length] at hl
    refine CSpec.close b2 ?_ ?_ (Ent.trans (Ent.trans r_ (z0h hl hm (z0g hN.1 hN.2))) r_)
    · rfl
    · trivial
theorem zx1 {W:World} {A:HP} {v:Value} {zs:List Int} (hA:Reads A tyI v zs) (hN:¬ NewOk zs) (h63:zs.length≤4611686018427387904) :
    CSpec Tryz.prog W 9 [v] [A] (fun _:Unit => .tuple #[.pointer none,.int .i64 (if 8 < zs.length then 4 else 1)]) (fun _=>True) (fun _ F=>A::F) := by
 skip
 refine CSpec.of_body Tryz.func9 rfl Tryz.ntmps9 rfl fun F => ?_
 show CJ _ _ _ _ _ _ (_::F)
 refine sR<|oA rfl<|oA rfl<|nT<|zab<|sR<|oM rfl<|oV (V_len rfl foc0 hA Tryz.runUnderlying22)<|oP (P_gtr rfl rfl)<|nT ?_
 first | (refine zav rfl (fun hg1 => ?_) (fun hg1 => ?_)) | (refine zaw rfl (fun hg1 => ?_) (fun hg1 => ?_)) | (refine za1 rfl (fun hg1 => ?_) (fun hg1 => ?_))
 ·
  refine sR<|oA rfl<|oA rfl<|nT<|zaf<|zak<|zan (res2 Tryz.results9 rfl rfl)<|CSpec.close () ?_ ?_ r_
  · first | exact tup2p (if_pos (by omega)).symm | exact tup2p (if_neg (by omega)).symm
  · trivial
 ·
  refine kT<|sR<|oO<|ze2 mBad rfl fun b1=>oP (zbk rfl (zr6 _))<|oO<|O_box rfl rfl rfl fun b2=>oA rfl<|nT<|zab<|sR<|oM rfl<|oV (V_len rfl foc2 hA Tryz.runUnderlying22)<|oM rfl<|nT<|zao<|zbs (fun h hh=>zch (t:=tyDrv) h hh)<|zbs zr7<|za8 (X:=Nat × Sl3 × DL) [2,3,6,15,16,17,18,19,20,21,22,23,24,25,26,27,28,29,30,31,32,33,34,35,36,37,38,39] (fun ⟨k,dv,l⟩  => ([(15,.int .i64 (k:Nat))]:Slots)) (fun ⟨k,dv,l⟩ R=>blk b2 73 [dv.v,.map (some b1),.slice none 0 0,.int .i64 0,.bool false,.int .i64 0]::sl tyDrv dv.v (DL.hs l)::DOwn l::R) (fun ⟨k,dv,l⟩  => k≤zs.length∧l.map Prod.snd=(zs.take k).map mkD∧(∀ p ∈ l,p.1.miss=p.2.miss)∧(∀ j,j < k→1≤zs.getD j 0∧zs.getD j 0≤65536)) (fun ⟨k,dv,l⟩  => zs.length - k) ⟨0,⟨none,0,0⟩,[]⟩ ?_ ?_ (t2_ (t1_ r_)) ?_
  · exact ⟨Nat.zero_le _,rfl,(fun p hp=>by cases hp),fun j hj=>by omega⟩
  · exact ⟨rfl,True.intro⟩
  ·
   rintro ⟨k,dv,l⟩ ⟨hk,hl,hm,hall⟩
   show CJ _ _ _ _ _ (([(15,.int .i64 (k:Nat))]:Slots) ++ forget _ _) (blk b2 73 [dv.v,.map (some b1),.slice none 0 0,.int .i64 0,.bool false,.int .i64 0]::sl tyDrv dv.v (DL.hs l)::DOwn l::_)
   have hlen:l.length=k := by have := congrArg List.length hl; simp at this; omega
   have hlen2:(DL.hs l).length=k := by simp [hlen]
   have hd0 := zvt zs k
   refine sR<|oP (P_lss rfl rfl)<|nT<|zab ?_
   first | (refine zav rfl (fun hg2 => ?_) (fun hg2 => ?_)) | (refine zaw rfl (fun hg2 => ?_) (fun hg2 => ?_)) | (refine za1 rfl (fun hg2 => ?_) (fun hg2 => ?_))
   ·
    refine kT<|zab<|zao<|sR ?_
    first | (refine RJ_op rfl (OJ_V (zam rfl rfl rfl (by omega) foc4 hA Tryz.runUnderlying22 Tryz.sizeOf3) rfl ?_)) | (refine RJ_op rfl (OJ_V (zam rfl rfl (Int.toNat_of_nonneg (by omega)).symm (by omega) foc4 hA Tryz.runUnderlying22 Tryz.sizeOf3) rfl ?_))
    refine oV (za6 rfl rfl (by omega) foc4 hA rfl rfl Tryz.isAgg3)<|oA rfl<|nT<|zab<|sR<|oM rfl<|oP (P_lss rfl rfl)<|oM rfl ?_
    first | (refine zbu 21 rfl (fun hg3B hg3 => ?_) (fun hg3B hg3 => ?_)) | (refine zbv 21 rfl (fun hg3B hg3 => ?_) (fun hg3B hg3 => ?_)) | (refine zb3 21 rfl (fun hg3B => ?_) (fun hg3B => ?_))
    ·
     refine g_ rfl rfl rfl hg3B rfl<|g_ rfl rfl rfl hg3B rfl<|oP (zbe rfl hg3B rfl)<|nT<|za7 rfl rfl<|sR<|oA rfl<|oA rfl<|nT<|zaf<|zak<|zax<|zak<|zbm<|zax<|zak<|zan (res2 Tryz.results9 rfl rfl)<|CSpec.close () ?_ ?_ (t4_ (e_ (e_ (e_ (e_ r_)))))
     · first | exact tup2p (if_pos (by omega)).symm | exact tup2p (if_neg (by omega)).symm
     · trivial
    ·
     refine p_ rfl rfl rfl hg3B (zae rfl)<|p_ rfl rfl rfl hg3B (P_gtr rfl rfl)<|oP (za2 rfl hg3B rfl)<|nT ?_
     first | (refine zav rfl (fun hg4 => ?_) (fun hg4 => ?_)) | (refine zaw rfl (fun hg4 => ?_) (fun hg4 => ?_)) | (refine za1 rfl (fun hg4 => ?_) (fun hg4 => ?_))
     ·
      refine sR<|oA rfl<|oA rfl<|nT<|zaf<|zak<|zax<|zak<|zbm<|zax<|zak<|zan (res2 Tryz.results9 rfl rfl)<|CSpec.close () ?_ ?_ (t4_ (e_ (e_ (e_ (e_ r_)))))
      · first | exact tup2p (if_pos (by omega)).symm | exact tup2p (if_neg (by omega)).symm
      · trivial
     ·
      refine kT ?_
      have hz:1≤zs.getD k 0∧zs.getD k 0≤65536 := ⟨by omega,by omega⟩
      obtain ⟨m,hmz⟩:∃ m:Nat,(m:Int)=zs.getD k tyI.dflt := ⟨(zs.getD k 0).toNat,by omega⟩
      refine za3 18432 kR_ rfl<|aN 0 1 rfl rfl (zae rfl)<|aN 1 3 rfl rfl (zae rfl)<|aN 2 7 rfl rfl (zad rfl)<|aN 3 15 rfl rfl (zaa rfl ⟨_,_,_,Tryz.runUnderlying73,rfl,rfl,Tryz.sizeOf70,rfl⟩)<|aW 4 31 rfl rfl r_ (zac rfl foc0 rfl Tryz.isAgg70)<|aN 5 63 rfl rfl (zae rfl)<|aN 7 191 rfl rfl (zae rfl)<|zg4 6 8 255 447 rfl rfl kR_ rfl rfl (zal rfl) (zal rfl) (zea (t:=tyU) (m:=m) (x0:=0) (z:=_) (bytes:=_) rfl rfl hmz.symm hmz.symm Tryz.underlying44 ⟨Tryz.t47,by kernel_rfl,rfl,rfl,rfl⟩ rfl (by omega) (by decide) rfl (fun b3 => ?_)) (zea (t:=tyU) (m:=m) (x0:=0) (z:=_) (bytes:=_) rfl rfl hmz.symm hmz.symm Tryz.underlying44 ⟨Tryz.t47,by kernel_rfl,rfl,rfl,rfl⟩ rfl (by omega) (by decide) rfl (fun b4 => ?_))
      ·
       refine ⟨fun _=>(t1_ (t1_ (t1_ (t1_ (t1_ (e_ r_)))))),?_⟩
       refine AJ_op 8 511 rfl kR_ rfl (zal rfl)<|zea (t:=tyU) (m:=m) (x0:=0) (z:=_) (bytes:=_) rfl rfl hmz.symm hmz.symm Tryz.underlying44 ⟨Tryz.t47,by kernel_rfl,rfl,rfl,rfl⟩ rfl (by omega) (by decide) rfl fun b5=>⟨fun _=>(t2_ (t2_ (t2_ (t2_ (t2_ (e_ (e_ r_))))))),?_⟩
       refine aN 9 1023 rfl rfl (zbk rfl (zij _ _ _ _ _ _))<|AJ_op 10 2047 rfl kR_ rfl (zal rfl)<|za4 rfl (zje _ _ _ _ _ _ _) rfl fun b6=>⟨fun _=>(t3_ (t3_ (t3_ (t3_ (t3_ (e_ (e_ (e_ r_)))))))),?_⟩
       refine AJ_op 11 4095 rfl kR_ rfl (zal rfl)<|zb1 (t:=tyDrv) (bytes:=56) rfl rfl del4 foc0 (Reads.lit (t:=tyDrv) (ys:=[⟨⟨some ⟨b3,0,none⟩,m,m⟩,⟨some ⟨b5,0,none⟩,m,m⟩,false⟩]) rfl rfl (by decide) (by decide) rfl) Tryz.underlying70 zkr (by simp only [List.length_append,List.length_cons,List.length_nil,maxLen] at *; omega) (by simp only [List.length_append,List.length_cons,List.length_nil,maxLen] at *; omega) rfl fun p7 c8=>⟨fun h=>absurd h (by decide),?_⟩
       refine aN 12 8191 rfl rfl (zad rfl)<|aN 13 16383 rfl rfl (zaa rfl ⟨_,_,_,Tryz.runUnderlying73,rfl,rfl,Tryz.sizeOf70,rfl⟩)<|AJ_op 14 32767 rfl kR_ rfl (zal rfl)<|za5 rfl rfl foc4 rfl rfl Tryz.sizeOf70<|⟨fun h=>absurd h (by decide),?_⟩
       refine zcf kR_<|zah<|zar<|zag<|oP (P_add rfl rfl (by omega))<|oM rfl<|za0<|zba ⟨k + 1,⟨p7,_,c8⟩,l ++ [((⟨⟨some ⟨b3,0,none⟩,m,m⟩,⟨some ⟨b5,0,none⟩,m,m⟩,false⟩:DrvH),(⟨List.replicate m 0,List.replicate m 0,false⟩:Drive))]⟩ (by first | omega | (simp only []; omega)) ?_ kP_ ?_ (Ent.trans (Ent.trans (t3_ (t2_ (t3_ r_))) (zjf ((⟨⟨some ⟨b3,0,none⟩,m,m⟩,⟨some ⟨b5,0,none⟩,m,m⟩,false⟩:DrvH),(⟨List.replicate m 0,List.replicate m 0,false⟩:Drive)))) (t3_ (Ent.takeC del1 (congrArg (sl tyDrv _) (zmr l ((⟨⟨some ⟨b3,0,none⟩,m,m⟩,⟨some ⟨b5,0,none⟩,m,m⟩,false⟩:DrvH),(⟨List.replicate m 0,List.replicate m 0,false⟩:Drive))).symm) (t0_ (t1_ (t1_ (e_ r_)))))))
       ·
        refine ⟨by omega,?_,?_,fun j hj=>(by
          rcases Nat.lt_or_ge j k with h | h
          · exact hall j h
          · obtain rfl:j=k := by omega
            exact hz)⟩
        · have e:mkD (zs.getD k 0)=⟨List.replicate m 0,List.replicate m 0,false⟩ := by
            rw [mkD, ← hd0, ← hmz]; rfl
          rw [zhy zs k (by omega),List.map_append,List.map_append,hl]
          show _ ++ [_]=_ ++ [mkD _]
          rw [e]
        · intro p hp
          rcases List.mem_append.1 hp with hp | hp
          · exact hm p hp
          · simp at hp; subst hp; rfl
       · exact ⟨rfl,True.intro⟩
      ·
       refine ⟨fun _=>(t1_ (t1_ (t1_ (t1_ (t1_ (e_ r_)))))),?_⟩
       refine AJ_op 6 511 rfl kR_ rfl (zal rfl)<|zea (t:=tyU) (m:=m) (x0:=0) (z:=_) (bytes:=_) rfl rfl hmz.symm hmz.symm Tryz.underlying44 ⟨Tryz.t47,by kernel_rfl,rfl,rfl,rfl⟩ rfl (by omega) (by decide) rfl fun b9=>⟨fun _=>(t2_ (t2_ (t2_ (t2_ (t2_ (e_ (e_ r_))))))),?_⟩
       refine aN 9 1023 rfl rfl (zbk rfl (zij _ _ _ _ _ _))<|AJ_op 10 2047 rfl kR_ rfl (zal rfl)<|za4 rfl (zje _ _ _ _ _ _ _) rfl fun b10=>⟨fun _=>(t3_ (t3_ (t3_ (t3_ (t3_ (e_ (e_ (e_ r_)))))))),?_⟩
       refine AJ_op 11 4095 rfl kR_ rfl (zal rfl)<|zb1 (t:=tyDrv) (bytes:=56) rfl rfl del4 foc0 (Reads.lit (t:=tyDrv) (ys:=[⟨⟨some ⟨b9,0,none⟩,m,m⟩,⟨some ⟨b4,0,none⟩,m,m⟩,false⟩]) rfl rfl (by decide) (by decide) rfl) Tryz.underlying70 zkr (by simp only [List.length_append,List.length_cons,List.length_nil,maxLen] at *; omega) (by simp only [List.length_append,List.length_cons,List.length_nil,maxLen] at *; omega) rfl fun p11 c12=>⟨fun h=>absurd h (by decide),?_⟩
       refine aN 12 8191 rfl rfl (zad rfl)<|aN 13 16383 rfl rfl (zaa rfl ⟨_,_,_,Tryz.runUnderlying73,rfl,rfl,Tryz.sizeOf70,rfl⟩)<|AJ_op 14 32767 rfl kR_ rfl (zal rfl)<|za5 rfl rfl foc4 rfl rfl Tryz.sizeOf70<|⟨fun h=>absurd h (by decide),?_⟩
       refine zcf kR_<|zah<|zar<|zag<|oP (P_add rfl rfl (by omega))<|oM rfl<|za0<|zba ⟨k + 1,⟨p11,_,c12⟩,l ++ [((⟨⟨some ⟨b9,0,none⟩,m,m⟩,⟨some ⟨b4,0,none⟩,m,m⟩,false⟩:DrvH),(⟨List.replicate m 0,List.replicate m 0,false⟩:Drive))]⟩ (by first | omega | (simp only []; omega)) ?_ kP_ ?_ (Ent.trans (Ent.trans (t2_ (t2_ (t3_ r_))) (zjf ((⟨⟨some ⟨b9,0,none⟩,m,m⟩,⟨some ⟨b4,0,none⟩,m,m⟩,false⟩:DrvH),(⟨List.replicate m 0,List.replicate m 0,false⟩:Drive)))) (t3_ (Ent.takeC del1 (congrArg (sl tyDrv _) (zmr l ((⟨⟨some ⟨b9,0,none⟩,m,m⟩,⟨some ⟨b4,0,none⟩,m,m⟩,false⟩:DrvH),(⟨List.replicate m 0,List.replicate m 0,false⟩:Drive))).symm) (t0_ (t1_ (t1_ (e_ r_)))))))
       ·
        refine ⟨by omega,?_,?_,fun j hj=>(by
          rcases Nat.lt_or_ge j k with h | h
          · exact hall j h
          · obtain rfl:j=k := by omega
            exact hz)⟩
        · have e:mkD (zs.getD k 0)=⟨List.replicate m 0,List.replicate m 0,false⟩ := by
            rw [mkD, ← hd0, ← hmz]; rfl
          rw [zhy zs k (by omega),List.map_append,List.map_append,hl]
          show _ ++ [_]=_ ++ [mkD _]
          rw [e]
        · intro p hp
          rcases List.mem_append.1 hp with hp | hp
          · exact hm p hp
          · simp at hp; subst hp; rfl
       · exact ⟨rfl,True.intro⟩
   ·
    refine zbc<|zay<|zau<|zat<|zar<|sR<|oM rfl<|oA rfl<|oA rfl<|nT<|zaf<|zan (res2 Tryz.results9 rfl rfl) ?_
    obtain rfl:k=zs.length := by omega
    exact absurd ⟨by omega,hall⟩ hN
    skip
theorem zx2 {W:World} {b:Nat} {s:ArrS} {d:Int} (hW:s.writes≤1000000000) :
    CSpec Tryz.prog W 246 [ptr b 0,.int .i64 d] [Arr b s] (fun _:Unit => .int .i64 (flC s d)) (fun _=>True) (fun _ F=>Arr b (flS s d)::F) := by
 refine CSpec.of_body Tryz.func246 rfl Tryz.ntmps246 rfl fun F => ?_
 show CJ _ _ _ _ _ _ (_::F)
 refine sR<|oA rfl<|nT<|zab<|sR<|oM rfl<|oP (zbk rfl (zvz _))<|oM rfl<|oP (zbb rfl rfl)<|oM rfl<|oP (zbb rfl rfl)<|oM rfl<|oP (zbb rfl rfl)<|oO<|za4 rfl (zpu _ _ _ _ _ _ _ _ _) rfl fun b1=>zcg (Ent.trans r_ (zb5 (t:=tyFn) (m:=3) [(250,ptr b 0),(251,ptr b 0),(252,ptr b 0)] rfl rfl rfl (by decide)))<|oO<|zai (c_chk3 (Reads.sl _ _ _)) rfl Tryz.call249 (Dels.cons del0 (dC_ del0)) rfl fun _ hc2=>oA rfl<|nT<|sR<|oM rfl<|oP (P_neq rfl rfl)<|nT ?_
 first | (refine zav rfl (fun hg1 => ?_) (fun hg1 => ?_)) | (refine zaw rfl (fun hg1 => ?_) (fun hg1 => ?_)) | (refine za1 rfl (fun hg1 => ?_) (fun hg1 => ?_))
 ·
  refine sR<|oM rfl<|oA rfl<|nT<|zaf<|zak<|zan (res1 Tryz.results246 rfl)<|CSpec.close () ?_ ?_ (Ent.takeC del1 (congrArg (Arr b) (z0k hg1).symm) (e_ r_))
  · rfl
  · trivial
 ·
  have hC := Decidable.not_not.1 hg1
  obtain ⟨i,rfl,g2⟩ := fl_ok hC
  refine kT<|zab<|zc7 (Ent.transX (t1_ r_) zdq) fun ⟨dv,lv,mr,l⟩=>zdk fun hX => ?_
  obtain ⟨hl,hm,hw⟩:l.map Prod.snd=(s).drv∧(∀ p ∈ l,p.1.miss=p.2.miss)∧ArrWF (s) := hX
  show CJ _ _ _ _ _ _ (blk b 73 [Sl3.v dv,.map (some mr),Sl3.v lv,_,_,_]::sl tyDrv (Sl3.v dv) (DL.hs l)::DOwn l::sl tyRec (Sl3.v lv) _::mpc mBad mr _::_)
  have hn := zfc hl
  have hwF := hw.fuse
  have hwL := hw.len
  have hwC := hw.cnt
  refine zbs (Ent.trans (t2_ r_) (zfr i hl (by omega)))<|zag<|oM rfl<|oP (zad rfl)<|oP (zaa rfl ⟨_,_,_,Tryz.runUnderlying73,rfl,rfl,Tryz.sizeOf70,rfl⟩)<|oV (zac rfl foc3 rfl Tryz.isAgg70)<|oM rfl ?_
  first | (refine RJ_op rfl (OJ_V (zam rfl rfl rfl (by omega) foc4 (Reads.sl _ _ _) Tryz.runUnderlying70 Tryz.sizeOf75) rfl ?_)) | (refine RJ_op rfl (OJ_V (zam rfl rfl (Int.toNat_of_nonneg (by omega)).symm (by omega) foc4 (Reads.sl _ _ _) Tryz.runUnderlying70 Tryz.sizeOf75) rfl ?_))
  refine oV (zdb rfl rfl (by omega) foc4 (Reads.sl _ _ _) rfl rfl Tryz.isAgg75 Tryz.sizeOf75)<|oO<|zbi Tryz.zeroValue75 rfl rfl fun b3=>oO<|zbo rfl rfl foc0 Tryz.sizeOf75 rfl rfl rfl<|nT<|sR<|oA rfl<|nT<|zab<|sR<|oM rfl<|oP (zad rfl)<|oP (zaa rfl ⟨_,_,_,Tryz.runUnderlying73,rfl,rfl,Tryz.sizeOf71,rfl⟩)<|oV (zac rfl foc4 rfl Tryz.isAgg71)<|oV (V_len rfl foc6 (Reads.sl _ _ _) Tryz.runUnderlying71)<|oM rfl<|nT<|zao<|zbs (fun h hh=>zch (t:=tyRec) h hh)<|za8 (X:=Nat × Sl3) [7,9,35,36,37,38,39,40,41,42,43,44,45,46,47,48,49,50,51,52,53,54,55,56,57,58,59,60,61] (fun ⟨k,rv⟩  => ([(7,rv.v),(35,.int .i64 (k:Nat))]:Slots)) (fun ⟨k,rv⟩ R=>sl tyU ((DL.hs l).getD i dH0).dur.v (flDur (s.drv.getD i d0).now i (s.log.take k) (s.drv.getD i d0).dur)::sl tyRec rv.v (zds i (s.log.take k))::R) (fun ⟨k,rv⟩  => k≤s.log.length) (fun ⟨k,rv⟩  => s.log.length - k) ⟨0,⟨none,0,0⟩⟩ ?_ ?_ (t3_ r_) ?_
  · omega
  · exact ⟨rfl,rfl,True.intro⟩
  ·
   rintro ⟨k,rv⟩ hk
   show CJ _ _ _ _ _ (([(7,rv.v),(35,.int .i64 (k:Nat))]:Slots) ++ forget _ _) (sl tyU ((DL.hs l).getD i dH0).dur.v (flDur (s.drv.getD i d0).now i (s.log.take k) (s.drv.getD i d0).dur)::sl tyRec rv.v (zds i (s.log.take k))::_)
   refine sR<|oP (P_lss rfl rfl)<|nT<|zab ?_
   first | (refine zav rfl (fun hg2 => ?_) (fun hg2 => ?_)) | (refine zaw rfl (fun hg2 => ?_) (fun hg2 => ?_)) | (refine za1 rfl (fun hg2 => ?_) (fun hg2 => ?_))
   ·
    refine kT<|zab<|zao<|zab ?_
    have hr:(s.log.getD k tyRec.dflt).d < s.drv.length∧(s.log.getD k tyRec.dflt).a < s.size (s.log.getD k tyRec.dflt).d := hw.log k (by omega)
    refine zag ?_
    first | (refine RJ_op rfl (OJ_V (zam rfl rfl rfl (by omega) foc7 (Reads.sl _ _ _) Tryz.runUnderlying71 Tryz.sizeOf164) rfl ?_)) | (refine RJ_op rfl (OJ_V (zam rfl rfl (Int.toNat_of_nonneg (by omega)).symm (by omega) foc7 (Reads.sl _ _ _) Tryz.runUnderlying71 Tryz.sizeOf164) rfl ?_))
    refine oV (zdb rfl rfl (by omega) foc7 (Reads.sl _ _ _) rfl rfl Tryz.isAgg164 Tryz.sizeOf164)<|oO<|zbi Tryz.zeroValue164 rfl rfl fun b4=>oO<|zbo rfl rfl foc0 Tryz.sizeOf164 rfl rfl rfl<|nT<|sR<|oP (zaa rfl ⟨_,_,_,Tryz.runUnderlying164,rfl,rfl,Tryz.sizeOf162,rfl⟩)<|oP (zaa rfl ⟨_,_,_,Tryz.runUnderlying162,rfl,rfl,Tryz.sizeOf3,rfl⟩)<|oV (zac rfl foc0 rfl Tryz.isAgg3)<|oM rfl<|oP (P_eql rfl rfl)<|nT ?_
    first | (refine zav rfl (fun hg3 => ?_) (fun hg3 => ?_)) | (refine zaw rfl (fun hg3 => ?_) (fun hg3 => ?_)) | (refine za1 rfl (fun hg3 => ?_) (fun hg3 => ?_))
    ·
     have hri:(s.log.getD k tyRec.dflt).d=i := by omega
     rw [hri] at hr
     have hr2:(s.log.getD k tyRec.dflt).a < (s.drv.getD i d0).now.length := hr.2
     have hfl := zjg (s.drv.getD i d0).now i (s.log.take k) (s.drv.getD i d0).dur
     have hsm := hw.same i (by omega)
     refine za3 8192 kR_ rfl<|aN 0 1 rfl rfl (zaa rfl ⟨_,_,_,Tryz.runUnderlying75,rfl,rfl,Tryz.sizeOf44,rfl⟩)<|aW 1 3 rfl rfl r_ (zac rfl foc3 rfl Tryz.isAgg44)<|aN 2 7 rfl rfl (zaa rfl ⟨_,_,_,Tryz.runUnderlying164,rfl,rfl,Tryz.sizeOf162,rfl⟩)<|aN 3 15 rfl rfl (zaa rfl ⟨_,_,_,Tryz.runUnderlying162,rfl,rfl,Tryz.sizeOf3,rfl⟩)<|aW 4 31 rfl rfl r_ (zac rfl foc0 rfl Tryz.isAgg3)<|aN 5 63 rfl rfl (zaa rfl ⟨_,_,_,Tryz.runUnderlying75,rfl,rfl,Tryz.sizeOf44,rfl⟩)<|aW 6 127 rfl rfl r_ (zac rfl foc3 rfl Tryz.isAgg44)<|aN 7 255 rfl rfl (zaa rfl ⟨_,_,_,Tryz.runUnderlying164,rfl,rfl,Tryz.sizeOf162,rfl⟩)<|aN 8 511 rfl rfl (zaa rfl ⟨_,_,_,Tryz.runUnderlying162,rfl,rfl,Tryz.sizeOf3,rfl⟩) ?_
     refine aW 9 1023 rfl rfl r_ (zac rfl foc0 rfl Tryz.isAgg3) ?_
     first | (refine zbj 10 2047 rfl kR_ rfl kR_ kR_ (zal rfl) r_ (zam rfl rfl rfl (by omega) foc4 (Reads.sl _ _ _) Tryz.runUnderlying44 Tryz.sizeOf47) rfl (fun _ _ _ _ h=>h) ?_) | (refine zbj 10 2047 rfl kR_ rfl kR_ kR_ (zal rfl) r_ (zam rfl rfl (Int.toNat_of_nonneg (by omega)).symm (by omega) foc4 (Reads.sl _ _ _) Tryz.runUnderlying44 Tryz.sizeOf47) rfl (fun _ _ _ _ h=>h) ?_)
     refine aW 11 4095 rfl rfl r_ (za6 rfl rfl (by omega) foc4 (Reads.sl _ _ _) rfl rfl Tryz.isAgg47) ?_
     first | (refine zbj 12 8191 rfl kR_ rfl kR_ kR_ (zal rfl) r_ (zam rfl rfl rfl (by omega) foc1 (Reads.sl _ _ _) Tryz.runUnderlying44 Tryz.sizeOf47) rfl (fun _ _ _ _ h=>h) ?_) | (refine zbj 12 8191 rfl kR_ rfl kR_ kR_ (zal rfl) r_ (zam rfl rfl (Int.toNat_of_nonneg (by omega)).symm (by omega) foc1 (Reads.sl _ _ _) Tryz.runUnderlying44 Tryz.sizeOf47) rfl (fun _ _ _ _ h=>h) ?_)
     refine AJ_op 13 16383 rfl kR_ rfl (zal rfl)<|zcb (x' := (s.drv.getD i d0).now.getD (s.log.getD k tyRec.dflt).a 0) rfl rfl rfl (by omega) foc1 rfl rfl rfl Tryz.sizeOf47<|⟨fun h=>absurd h (by decide),?_⟩
     refine zcf kR_<|zah<|zar<|zag<|oP (P_add rfl rfl (by omega))<|oM rfl<|za0<|zba ⟨k + 1,rv⟩ (by first | omega | (simp only []; omega)) ?_ kP_ ?_ (Ent.takeC del1 (congrArg (sl tyU _) (fl_t (by omega) hri)) (Ent.takeC del1 (congrArg (sl tyRec _) (ot_t (by omega) hri)) (t1_ (t1_ (t1_ (t1_ (t1_ (t1_ (t1_ (t1_ (e_ r_)))))))))))
     · omega
     · exact ⟨rfl,rfl,True.intro⟩
    ·
     have hri:(s.log.getD k tyRec.dflt).d≠i := by omega
     have hfl:(zds i (s.log.take k)).length≤(s.log.take k).length := List.length_filter_le _ _
     have htk := List.length_take_le k s.log
     refine zag<|oM rfl<|oV (zbq rfl foc0 Tryz.isAgg164 Tryz.sizeOf164 rfl rfl)<|oO<|za4 rfl (zl2 _ _ _) rfl fun b5=>oO<|zb1 (t:=tyRec) (bytes:=24) rfl rfl del3 foc0 (Reads.lit (t:=tyRec) (ys:=[(s.log.getD k tyRec.dflt)]) rfl rfl (by decide) (by decide) rfl) Tryz.underlying71 znw (by simp only [List.length_append,List.length_cons,List.length_nil,maxLen] at *; omega) (by simp only [List.length_append,List.length_cons,List.length_nil,maxLen] at *; omega) rfl fun p6 c7=>oA rfl<|za0<|zah<|zar<|zag<|oP (P_add rfl rfl (by omega))<|oM rfl<|za0<|zba ⟨k + 1,⟨p6,_,c7⟩⟩ (by first | omega | (simp only []; omega)) ?_ kP_ ?_ (Ent.takeC del3 (congrArg (sl tyU _) (fl_f (by omega) hri)) (Ent.takeC del0 (congrArg (sl tyRec _) (ot_f (by omega) hri)) (t2_ (t2_ (t2_ (t2_ (t2_ (t2_ (t2_ (t2_ (e_ (e_ r_))))))))))))
     · omega
     · exact ⟨rfl,rfl,True.intro⟩
   ·
    refine zbc<|zay<|zau<|zat<|zar<|sR<|oM rfl<|oM rfl<|oP (zad rfl)<|oP (zaa rfl ⟨_,_,_,Tryz.runUnderlying73,rfl,rfl,Tryz.sizeOf71,rfl⟩)<|oO<|za5 rfl rfl foc5 rfl rfl Tryz.sizeOf71<|nT<|sR<|oA rfl<|nT<|zaf<|zan (res1 Tryz.results246 rfl) ?_
    obtain rfl:k=s.log.length := by omega
    rw [zr9 hC]
    refine CSpec.close () ?_ ?_ (Ent.trans (Ent.trans (t5_ (t5_ (t3_ (Ent.takeC del0 (by rw [List.take_length]) (t2_ (Ent.takeC del0 (by rw [List.take_length]) (t2_ r_))))))) (zik (s' := { s with drv := s.drv.set i { s.drv.getD i d0 with dur := flDur (s.drv.getD i d0).now i s.log (s.drv.getD i d0).dur },log := zds i s.log }) (lv:=rv) i { s.drv.getD i d0 with dur := flDur (s.drv.getD i d0).now i s.log (s.drv.getD i d0).dur } hl hm (by omega) rfl rfl (wf_drv (wf_log hw _) _ (by omega) rfl (zjg _ _ _ _)))) (t0_ (e_ (e_ (e_ r_)))))
    · exact iv hC.symm
    · trivial
theorem zv6 {W:World} {b:Nat} {s:ArrS} {K:HP} {v:Value} {ks:List Bool} (hK:Reads K tyB v ks) (hW:s.writes≤1000000000) :
    CSpec Tryz.prog W 60 [ptr b 0,v] [Arr b s,K] (fun _:Unit => .tuple #[]) (fun _=>True) (fun _ F=>Arr b (rsS s ks)::K::F) := by
 refine CSpec.of_body Tryz.func60 rfl Tryz.ntmps60 rfl fun F => ?_
 show CJ _ _ _ _ _ _ (_::_::F)
 refine zc7 (Ent.transX r_ zdq) fun ⟨dv,lv,mr,l⟩=>zdk fun hX => ?_
 obtain ⟨hl,hm,hw⟩:l.map Prod.snd=(s).drv∧(∀ p ∈ l,p.1.miss=p.2.miss)∧ArrWF (s) := hX
 show CJ _ _ _ _ _ _ (blk b 73 [Sl3.v dv,.map (some mr),Sl3.v lv,_,_,_]::sl tyDrv (Sl3.v dv) (DL.hs l)::DOwn l::sl tyRec (Sl3.v lv) _::mpc mBad mr _::_)
 have hn := zfc hl
 have hwF := hw.fuse
 have hwL := hw.len
 have hwC := hw.cnt
 refine zab<|sR<|oM rfl<|oP (zad rfl)<|oP (zaa rfl ⟨_,_,_,Tryz.runUnderlying73,rfl,rfl,Tryz.sizeOf71,rfl⟩)<|oV (zac rfl foc0 rfl Tryz.isAgg71)<|oV (V_len rfl foc3 (Reads.sl _ _ _) Tryz.runUnderlying71)<|oM rfl<|nT<|zao<|za8 (X:=Nat × DL) [4,5,13,14,15,16,17,18,19,20,21,22,23,24,25,26,27,28,29,30,31,32,33,34,35,36,37,38,39,40,41,42,43,44] (fun ⟨k,l1⟩  => ([(13,.int .i64 (k:Nat))]:Slots)) (fun ⟨k,l1⟩ R=>DOwn l1::R) (fun ⟨k,l1⟩  => k≤s.log.length∧LOk l l1 (rsGo ks 0 (s.log.take k) s.drv)) (fun ⟨k,l1⟩  => s.log.length - k) ⟨0,l⟩ ?_ ?_ (t2_ r_) ?_
 · exact ⟨Nat.zero_le _,rfl,hl,hm⟩
 · exact ⟨rfl,True.intro⟩
 ·
  rintro ⟨k,l1⟩ ⟨hk,hl1⟩
  show CJ _ _ _ _ _ (([(13,.int .i64 (k:Nat))]:Slots) ++ forget _ _) (DOwn l1::_)
  refine sR<|oP (P_lss rfl rfl)<|nT<|zab ?_
  first | (refine zav rfl (fun hg1 => ?_) (fun hg1 => ?_)) | (refine zaw rfl (fun hg1 => ?_) (fun hg1 => ?_)) | (refine za1 rfl (fun hg1 => ?_) (fun hg1 => ?_))
  ·
   refine kT<|zab<|zao<|sR ?_
   have hr:(s.log.getD k tyRec.dflt).d < s.drv.length∧(s.log.getD k tyRec.dflt).a < (s.drv.getD (s.log.getD k tyRec.dflt).d d0).now.length := hw.log k (by omega)
   refine oM rfl ?_
   first | (refine RJ_op rfl (OJ_V (zam rfl rfl rfl (by omega) foc3 (Reads.sl _ _ _) Tryz.runUnderlying71 Tryz.sizeOf164) rfl ?_)) | (refine RJ_op rfl (OJ_V (zam rfl rfl (Int.toNat_of_nonneg (by omega)).symm (by omega) foc3 (Reads.sl _ _ _) Tryz.runUnderlying71 Tryz.sizeOf164) rfl ?_))
   refine oV (zdb rfl rfl (by omega) foc3 (Reads.sl _ _ _) rfl rfl Tryz.isAgg164 Tryz.sizeOf164)<|oO<|zbi Tryz.zeroValue164 rfl rfl fun b1=>oA rfl<|oO<|zbo rfl rfl foc0 Tryz.sizeOf164 rfl rfl rfl<|nT<|sR<|oM rfl<|oM rfl<|oV (V_len rfl foc6 hK Tryz.runUnderlying103)<|oP (P_lss rfl rfl)<|oM rfl ?_
   first | (refine zbu 22 rfl (fun hg2B hg2 => ?_) (fun hg2B hg2 => ?_)) | (refine zbv 22 rfl (fun hg2B hg2 => ?_) (fun hg2B hg2 => ?_)) | (refine zb3 22 rfl (fun hg2B => ?_) (fun hg2B => ?_))
   ·
    refine p_ rfl rfl rfl hg2B (zae rfl)<|p_ rfl rfl rfl hg2B (zae rfl) ?_
    first | (refine RJ_gy (zaz rfl rfl rfl hg2B) (OJ_V (zam rfl rfl rfl (by omega) foc6 hK Tryz.runUnderlying103 Tryz.sizeOf4) rfl ?_)) | (refine RJ_gy (zaz rfl rfl rfl hg2B) (OJ_V (zam rfl rfl (Int.toNat_of_nonneg (by omega)).symm (by omega) foc6 hK Tryz.runUnderlying103 Tryz.sizeOf4) rfl ?_))
    refine v_ rfl rfl rfl hg2B (za6 rfl rfl (by omega) foc6 hK rfl rfl Tryz.isAgg4)<|oP (zbe rfl hg2B rfl)<|nT ?_
    first | (refine zav rfl (fun hg3 => ?_) (fun hg3 => ?_)) | (refine zaw rfl (fun hg3 => ?_) (fun hg3 => ?_)) | (refine za1 rfl (fun hg3 => ?_) (fun hg3 => ?_))
    ·
     have hkt:ks.getD k false=true := hg3
     have hkp := ze3 ks (s.log.take k) 0 s.drv (s.log.getD k tyRec.dflt).d
     have hsm := hw.same (s.log.getD k tyRec.dflt).d hr.1
     have hr1:(s.log.getD k tyRec.dflt).d < (rsGo ks 0 (s.log.take k) s.drv).length := by rw [hkp.1]; exact hr.1
     have hr2:(s.log.getD k tyRec.dflt).a < ((rsGo ks 0 (s.log.take k) s.drv).getD (s.log.getD k tyRec.dflt).d d0).dur.length := by rw [hkp.2.2.1, ← hsm.1]; exact hr.2
     refine zbs (Ent.trans (t1_ r_) (zop hl1 (s.log.getD k tyRec.dflt).d (hr1)))<|za3 65536 kR_ rfl<|aN 0 1 rfl rfl (zae rfl)<|aN 1 3 rfl rfl (zad rfl)<|aN 2 7 rfl rfl (zaa rfl ⟨_,_,_,Tryz.runUnderlying73,rfl,rfl,Tryz.sizeOf70,rfl⟩)<|aW 3 15 rfl rfl r_ (zac rfl foc4 rfl Tryz.isAgg70)<|aN 4 31 rfl rfl (zaa rfl ⟨_,_,_,Tryz.runUnderlying164,rfl,rfl,Tryz.sizeOf162,rfl⟩)<|aN 5 63 rfl rfl (zaa rfl ⟨_,_,_,Tryz.runUnderlying162,rfl,rfl,Tryz.sizeOf3,rfl⟩)<|aW 6 127 rfl rfl r_ (zac rfl foc3 rfl Tryz.isAgg3)<|aW 7 255 rfl rfl r_ (zam rfl rfl rfl (by omega) foc5 (Reads.sl _ _ _) Tryz.runUnderlying70 Tryz.sizeOf75)<|aN 8 511 rfl rfl (zbl rfl ⟨_,_,_,Tryz.runUnderlying75,rfl,rfl,Tryz.sizeOf44,rfl⟩) ?_
     refine aW 9 1023 rfl rfl r_ (za6 rfl rfl (by omega) foc5 (Reads.sl _ _ _) rfl rfl Tryz.isAgg44)<|aN 10 2047 rfl rfl (zaa rfl ⟨_,_,_,Tryz.runUnderlying164,rfl,rfl,Tryz.sizeOf162,rfl⟩)<|aN 11 4095 rfl rfl (zaa rfl ⟨_,_,_,Tryz.runUnderlying162,rfl,rfl,Tryz.sizeOf3,rfl⟩)<|aW 12 8191 rfl rfl r_ (zac rfl foc3 rfl Tryz.isAgg3)<|aN 13 16383 rfl rfl (zaa rfl ⟨_,_,_,Tryz.runUnderlying164,rfl,rfl,Tryz.sizeOf47,rfl⟩)<|aW 14 32767 rfl rfl r_ (zac rfl foc3 rfl Tryz.isAgg47)<|aW 15 65535 rfl rfl r_ (zam rfl rfl rfl (by exact hr2) foc1 (Reads.sl _ _ _) Tryz.runUnderlying44 Tryz.sizeOf47)<|AJ_op 16 131071 rfl kR_ rfl (zal rfl)<|zcb (x' := (s.log.getD k tyRec.dflt).v) rfl rfl rfl (by omega) foc1 rfl rfl rfl Tryz.sizeOf47<|⟨fun h=>absurd h (by decide),?_⟩
     refine zcf kR_<|zah<|zar<|zag<|oP (P_add rfl rfl (by omega))<|oM rfl<|za0<|zba ⟨k + 1,l1.set (s.log.getD k tyRec.dflt).d ((DL.hs l).getD (s.log.getD k tyRec.dflt).d dH0, { (rsGo ks 0 (s.log.take k) s.drv).getD (s.log.getD k tyRec.dflt).d d0 with dur := ((rsGo ks 0 (s.log.take k) s.drv).getD (s.log.getD k tyRec.dflt).d d0).dur.set (s.log.getD k tyRec.dflt).a (s.log.getD k tyRec.dflt).v })⟩ (by first | omega | (simp only []; omega)) ?_ kP_ ?_ (Ent.trans (Ent.trans r_ (zno hl1 (s.log.getD k tyRec.dflt).d ({ (rsGo ks 0 (s.log.take k) s.drv).getD (s.log.getD k tyRec.dflt).d d0 with dur := ((rsGo ks 0 (s.log.take k) s.drv).getD (s.log.getD k tyRec.dflt).d d0).dur.set (s.log.getD k tyRec.dflt).a (s.log.getD k tyRec.dflt).v }) hr1)) (t0_ (t1_ (t1_ (t1_ (t1_ (t1_ (e_ r_))))))))
     ·
      refine ⟨by omega,?_⟩
      rw [zl4 (by omega),if_pos hkt]; exact hl1.set _ _ hr1 rfl
     · exact ⟨rfl,True.intro⟩
    ·
     have hkf:¬ ks.getD k false=true := by rw [show ks.getD k false=false from hg3]; decide
     refine zbh<|zah<|zar<|zag<|oP (P_add rfl rfl (by omega))<|oM rfl<|za0<|zba ⟨k + 1,l1⟩ (by first | omega | (simp only []; omega)) ?_ kP_ ?_ (t1_ (t1_ (t1_ (t1_ (t1_ (t1_ (e_ r_)))))))
     ·
      refine ⟨by omega,?_⟩
      rw [zl4 (by omega),if_neg (by first | exact hkf | simp_all)]; exact hl1
     · exact ⟨rfl,True.intro⟩
   ·
    have hkf:¬ ks.getD k false=true := by rw [ztl (by omega)]; decide
    refine g_ rfl rfl rfl hg2B rfl<|g_ rfl rfl rfl hg2B rfl<|g_ rfl rfl rfl hg2B rfl<|g_ rfl rfl rfl hg2B rfl<|oP (za2 rfl hg2B rfl)<|nT<|zap rfl rfl<|zbh<|zah<|zar<|zag<|oP (P_add rfl rfl (by omega))<|oM rfl<|za0<|zba ⟨k + 1,l1⟩ (by first | omega | (simp only []; omega)) ?_ kP_ ?_ (t1_ (t1_ (t1_ (t1_ (t1_ (t1_ (e_ r_)))))))
    ·
     refine ⟨by omega,?_⟩
     rw [zl4 (by omega),if_neg (by first | exact hkf | simp_all)]; exact hl1
    · exact ⟨rfl,True.intro⟩
  ·
   refine zbc<|zay<|zau<|zat<|zar<|zab<|zab ?_
   obtain rfl:k=s.log.length := by omega
   rw [List.take_length] at hl1
   have hkp := fun j=>ze3 ks s.log 0 s.drv j
   have hdl:(rsGo ks 0 s.log s.drv).length=s.drv.length := (hkp 0).1
   refine zag<|oM rfl<|oP (zad rfl)<|oP (zaa rfl ⟨_,_,_,Tryz.runUnderlying73,rfl,rfl,Tryz.sizeOf70,rfl⟩)<|oV (zac rfl foc1 rfl Tryz.isAgg70)<|oV (V_len rfl foc2 (Reads.sl _ _ _) Tryz.runUnderlying70)<|oM rfl<|nT<|zao<|za8 (X:=Nat × DL) [7,50,51,52,53,54,55,56,57,58,59] (fun ⟨i,l2⟩  => ([(50,.int .i64 (i:Nat))]:Slots)) (fun ⟨i,l2⟩ R=>DOwn l2::R) (fun ⟨i,l2⟩  => i≤s.drv.length∧LOk l l2 (stl i (rsGo ks 0 s.log s.drv))) (fun ⟨i,l2⟩  => s.drv.length - i) ⟨0,l1⟩ ?_ ?_ r_ ?_
   ·
    refine ⟨Nat.zero_le _,?_⟩
    rw [zxy]; exact hl1
   · exact ⟨rfl,True.intro⟩
   ·
    rintro ⟨i,l2⟩ ⟨hi,hl2⟩
    show CJ _ _ _ _ _ (([(50,.int .i64 (i:Nat))]:Slots) ++ forget _ _) (DOwn l2::_)
    refine sR<|oP (P_lss rfl rfl)<|nT<|zab ?_
    first | (refine zav rfl (fun hg4 => ?_) (fun hg4 => ?_)) | (refine zaw rfl (fun hg4 => ?_) (fun hg4 => ?_)) | (refine za1 rfl (fun hg4 => ?_) (fun hg4 => ?_))
    ·
     refine kT<|zab<|zao<|zab ?_
     have hsl := z0m i (rsGo ks 0 s.log s.drv)
     have hst := stl_at (n:=i) (D:=(rsGo ks 0 s.log s.drv)) (by omega)
     have hsm := hw.same i (by omega)
     have hcl:((stl i (rsGo ks 0 s.log s.drv)).getD i d0).dur.length=((stl i (rsGo ks 0 s.log s.drv)).getD i d0).now.length := by rw [hst,(hkp i).2.2.1,(hkp i).2.1]; exact hsm.1.symm
     refine zbs (Ent.trans r_ (zop hl2 i (by omega)))<|zag<|oV (zam rfl rfl rfl (by omega) foc4 (Reads.sl _ _ _) Tryz.runUnderlying70 Tryz.sizeOf75)<|oV (zdb rfl rfl (by omega) foc4 (Reads.sl _ _ _) rfl rfl Tryz.isAgg75 Tryz.sizeOf75)<|oO<|zbi Tryz.zeroValue75 rfl rfl fun b2=>oO<|zbo rfl rfl foc0 Tryz.sizeOf75 rfl rfl rfl<|nT<|zag<|oP (zaa rfl ⟨_,_,_,Tryz.runUnderlying75,rfl,rfl,Tryz.sizeOf44,rfl⟩)<|oV (zac rfl foc0 rfl Tryz.isAgg44)<|oP (zaa rfl ⟨_,_,_,Tryz.runUnderlying75,rfl,rfl,Tryz.sizeOf44,rfl⟩)<|oV (zac rfl foc0 rfl Tryz.isAgg44)<|oO<|zrn (t:=tyU) (bytes:=8) rfl rfl del1 foc1 (Reads.sl _ _ _) Tryz.underlying44 zjw rfl<|za0<|zah<|zar<|zag<|oP (P_add rfl rfl (by omega))<|oM rfl<|za0<|zba ⟨i + 1,l2.set i ((DL.hs l).getD i dH0,settleD ((rsGo ks 0 s.log s.drv).getD i d0))⟩ (by first | omega | (simp only []; omega)) ?_ kP_ ?_ (Ent.trans (Ent.trans (Ent.takeC del0 (congrArg (sl tyU _) ((zv5 hcl).trans (by rw [hst]; rfl))) (Ent.takeC del1 (congrArg (sl tyU _) (by rw [hst]; rfl)) (t1_ r_))) (zno hl2 i (settleD ((rsGo ks 0 s.log s.drv).getD i d0)) (by omega))) (t0_ (t1_ (t1_ (t1_ (t1_ (t1_ (e_ r_))))))))
     ·
      refine ⟨by omega,?_⟩
      rw [← zxz (by omega)]; exact hl2.set _ _ (by omega) (by rw [hst]; rfl)
     · exact ⟨rfl,True.intro⟩
    ·
     refine zbc<|zay<|zau<|zat<|zar ?_
     obtain rfl:i=s.drv.length := by omega
     rw [← hdl,z0l] at hl2
     refine zbs (fun h hh=>zch (t:=tyRec) h hh)<|zag<|oM rfl<|oM rfl<|oM rfl<|oP (zad rfl)<|oP (zaa rfl ⟨_,_,_,Tryz.runUnderlying73,rfl,rfl,Tryz.sizeOf71,rfl⟩)<|oO<|za5 rfl rfl foc2 rfl rfl Tryz.sizeOf71<|oP (zad rfl)<|oP (zaa rfl ⟨_,_,_,Tryz.runUnderlying73,rfl,rfl,Tryz.sizeOf4,rfl⟩)<|oO<|za5 rfl rfl foc2 rfl rfl Tryz.sizeOf4<|oP (zad rfl)<|oP (zaa rfl ⟨_,_,_,Tryz.runUnderlying73,rfl,rfl,Tryz.sizeOf3,rfl⟩)<|oO<|za5 rfl rfl foc2 rfl rfl Tryz.sizeOf3<|za0<|zce (res0 Tryz.results60)<|CSpec.close () ?_ ?_ (Ent.trans (Ent.trans (t2_ (t2_ (t1_ (t0_ (t1_ r_))))) (zu2 (s' := rsS s ks) (lv:=⟨none,0,0⟩) hl2 (wf_rs hw ks))) (t0_ (t1_ (e_ r_))))
     · rfl
     · trivial
end Go.Proofs
set_option linter.unusedSimpArgs false
set_option maxRecDepth 20000
namespace Go.Proofs
open Go.VG
theorem zu3 {α:Type} {t:Ty α} {A:HP} {n c:Nat} {xs:List α} (hr:Reads A t (.slice none n c) xs) {R:List HP} (h:PH) (hh:stars (A::R) h):xs=[] := by
  obtain ⟨h1,h2,_,_,ha,_⟩ := hh
  rcases hr h1 ha with ⟨_,rfl⟩ | ⟨a,cap,he,_⟩
  · rfl
  · cases he
end Go.Proofs
set_option linter.unusedSimpArgs false
set_option linter.unusedVariables false
set_option maxRecDepth 20000
set_option maxHeartbeats 4000000
namespace Go.Proofs
open Go.VG
abbrev tyU8:Ty UInt8 := { T := 5,sz := 1,enc := fun x=>[.int .u8 (x.toNat:Int)],dflt := 0,len := fun _=>rfl,one := fun _=>rfl,pos := by decide }
theorem zjx:ElemOk Tryz.prog tyU8 1 := ⟨Tryz.t5,.int .u8 0,by kernel_rfl,rfl,rfl,rfl,rfl⟩
abbrev tyS:Ty ByteArray := { T := 9,sz := 1,enc := fun x=>[.string x],dflt := ByteArray.empty,len := fun _=>rfl,one := fun _=>rfl,pos := by decide }
def zdh (r_0:Rec) (p1:Int):Option (Bool) :=
  some ((decide (((r_0.d:Nat):Int)=p1)))
theorem zhc {W:World} {bp1:Nat} {r_0:Rec} {p1:Int} {r:Bool} (h:zdh r_0 p1=some r) :
    CSpec Tryz.prog W 63 [.agg #[.int .i64 (((r_0.d:Nat):Int)),.int .i64 (((r_0.a:Nat):Int)),.int .u64 (r_0.v.toNat:Int)],ptr bp1 0] [blk bp1 3 [.int .i64 p1]] (fun x:Unit => .bool r) (fun _=>True) (fun x F=>blk bp1 3 [.int .i64 p1]::F) := by
 refine CSpec.of_body Tryz.func63 rfl Tryz.ntmps63 rfl fun F => ?_
 show CJ _ _ _ _ _ _ (_::F)
 unfold zdh at h
 refine sR<|oO<|O_box rfl rfl rfl fun b1=>oA rfl<|nT<|sR<|oP (zaa rfl ⟨_,_,_,Tryz.runUnderlying164,rfl,rfl,Tryz.sizeOf162,rfl⟩)<|oP (zaa rfl ⟨_,_,_,Tryz.runUnderlying162,rfl,rfl,Tryz.sizeOf3,rfl⟩)<|oV (zac rfl foc0 rfl Tryz.isAgg3)<|oV (zac rfl foc1 rfl Tryz.isAgg3)<|oP (P_eql (a:=((r_0.d:Nat):Int)) (b:=p1) rfl rfl)<|oA rfl<|nT<|zaf ?_
 cases h
 exact fE (res1 Tryz.results63 rfl) () (t1_ (e_ r_))
def zb6 (p0:List Rec) (p1_c0:Int) (rec:Nat→Option ((Unit) ⊕ Int)) (x6:Nat):Option ((Unit) ⊕ Int) :=
  if (((x6:Nat):Int) < ((p0.length:Nat):Int)) then
    Option.bind (zdh (p0.getD x6 r0) p1_c0) fun r7 =>
    if r7=true then
      some (.inr (((x6:Nat):Int)))
    else
      rec (x6 + 1)
  else
    some (.inl ())
def zbn (p0:List Rec) (p1_c0:Int):Nat→Nat→Option ((Unit) ⊕ Int)
  | 0,_=>none
  | n + 1,x6=>zb6 p0 p1_c0 (zbn p0 p1_c0 n) x6
def zb8 (p0:List Rec) (p1_c0:Int):Option (Int) :=
  seqO (zbn p0 p1_c0 FUEL 0) fun a5 =>
  some (-1:Int)
theorem zeh {W:World} {Ap0:HP} {vp0:Value} {bp1_c0:Nat} {p0:List Rec} {p1_c0:Int} {r:Int} (rp0:Reads Ap0 tyRec vp0 p0) (h:zb8 p0 p1_c0=some r) :
    CSpec Tryz.prog W 87 [vp0,.func (.func 63) #[] #[ptr bp1_c0 0]] [Ap0,blk bp1_c0 3 [.int .i64 p1_c0]] (fun x:Unit => .int .i64 r) (fun _=>True) (fun x F=>Ap0::blk bp1_c0 3 [.int .i64 p1_c0]::F) := by
 refine CSpec.of_body Tryz.func87 rfl Tryz.ntmps87 rfl fun F => ?_
 show CJ _ _ _ _ _ _ (_::_::F)
 unfold zb8 at h
 refine zdy (zh4 rp0 del0) fun hlen1=>sR<|oA rfl<|nT<|zab<|sR<|oM rfl<|oV (V_len rfl foc0 rp0 Tryz.runUnderlying71)<|oM rfl<|nT ?_
 obtain ⟨y4,hl2,hK3⟩ := seq_e h
 refine zdg (X:=Unit) [4,5,8,9,10,11,12,13,14,15,16,17,18] (fun _=>([]:Slots)) (fun _ R=>R) (fun _=>y4 = .inl ()) Dels.nil ?_ ?_
 ·
  refine zao<|za8 (X:=Nat × Nat) [4,5,8,9,10,11,12,13,14,15,16,17,18] (fun ⟨n,x6⟩=>([(8,.int .i64 (((x6:Nat):Int)))]:Slots)) (fun ⟨n,x6⟩ R=>R) (fun ⟨n,x6⟩=>zbn p0 p1_c0 n x6=some y4) (fun ⟨n,x6⟩=>n) ⟨FUEL,0⟩ ?_ ?_ r_ ?_
  · exact hl2
  · exact ⟨rfl,True.intro⟩
  ·
   rintro ⟨n,x6⟩ h
   cases n with
   | zero=>exact zdr h
   | succ n => ?_
   replace h:zb6 p0 p1_c0 (zbn p0 p1_c0 n) x6=some y4 := h
   unfold zb6 at h
   show CJ _ _ _ _ _ (([(8,.int .i64 (((x6:Nat):Int)))]:Slots) ++ forget _ _) (_)
   refine sR<|oP (P_lss (a:=((x6:Nat):Int)) (b:=((p0.length:Nat):Int)) rfl rfl)<|nT<|zab<|zbt rfl zaq (fun hg1 => ?_) (fun hg1 => ?_)
   ·
    replace h := ite_t hg1 h
    refine kT<|zab<|zao<|sR<|oM rfl<|oA rfl<|nT<|sR<|oM rfl<|oM rfl<|oM rfl<|oV (zam (i:=x6) rfl rfl rfl (by omega) foc0 rp0 Tryz.runUnderlying71 Tryz.sizeOf164)<|oV (zdb rfl rfl (by omega) foc0 rp0 rfl rfl Tryz.isAgg164 Tryz.sizeOf164) ?_
    obtain ⟨r7,hr8,h⟩ := zb9 h
    refine oO<|zdz rfl rfl (zhc hr8) Tryz.call63 (dC_ del1) rfl fun _ _=>nT<|zbt rfl Iff.rfl (fun hg2 => ?_) (fun hg2 => ?_)
    ·
     replace h := ite_t hg2 h
     refine sR<|oM rfl<|oA rfl<|nT<|zaf<|zax<|zak<|zbm<|zax<|zak ?_
     have hE := Option.some.inj h
     replace hE := zf2 hK3 hE.symm
     subst hE
     exact fE (res1 Tryz.results87 rfl) () (t1_ r_)
    ·
     replace h := ite_f hg2 h
     exact zbh<|zah<|zar<|zag<|oP (PJ_eq (P_add (a:=((x6:Nat):Int)) (b:=(1:Int)) rfl rfl (by omega)) rfl)<|oM rfl<|za0<|nR ⟨n,(x6 + 1)⟩ h ⟨rfl,True.intro⟩ (t1_ r_)
   ·
    replace h := ite_f hg1 h
    exact zbc<|zay<|zau<|zat<|cR () (Option.some.inj h).symm True.intro r_
 ·
  rintro _ hy9
  replace h := zgs hK3 hy9
  show CJ _ _ _ _ _ (([]:Slots) ++ forget _ _) (_)
  refine sR<|oA rfl<|nT<|zaf ?_
  cases h
  exact fE (res1 Tryz.results87 rfl) () r_
def zdt (p1_c0:Int) (rec:(List Rec)→Int→Int→Option (Int × (List Rec))) (x10:List Rec) (x11:Int) (x12:Int):Option (Int × (List Rec)) :=
  if (x12 < ((x10.length:Nat):Int)) then
    grd (decide (0≤x12∧x12 < (x10.length:Int))) <|
    Option.bind (zdh ((x10.getD ((x12).toNat) r0)) p1_c0) fun r15 =>
    if (¬ r15=true) then
      grd (decide (0≤x11∧x11 < (x10.length:Int))) <|
      grd (inI64 ((x11 + (1:Int)))) <|
      grd (inI64 ((x12 + (1:Int)))) <|
      rec ((x10.set ((x11).toNat) ((x10.getD ((x12).toNat) r0)))) ((x11 + (1:Int))) ((x12 + (1:Int)))
    else
      grd (inI64 ((x12 + (1:Int)))) <|
      rec x10 x11 ((x12 + (1:Int)))
  else
    some (x11,x10)
def zdd (p1_c0:Int):Nat→(List Rec)→Int→Int→Option (Int × (List Rec))
  | 0,_,_,_=>none
  | n + 1,x10,x11,x12=>zdt p1_c0 (zdd p1_c0 n) x10 x11 x12
def zfi (p0:List Rec) (p1_c0:Int):Option ((List Rec)) :=
  Option.bind (zb8 p0 p1_c0) fun r2 =>
  if (r2=(-1:Int)) then
    some p0
  else
    grd (inI64 ((r2 + (1:Int)))) <|
    Option.bind (zdd p1_c0 FUEL p0 r2 ((r2 + (1:Int)))) fun a9 =>
    grd (decide (0≤a9.1∧(a9.1).toNat≤a9.2.length∧a9.2.length≤a9.2.length)) <|
    grd (decide (0≤a9.1∧0≤(a9.1).toNat∧(a9.1).toNat≤((a9.2.take ((a9.1).toNat) ++ List.replicate (a9.2.length - ((a9.1).toNat)) tyRec.dflt)).length)) <|
    some ((((a9.2.take ((a9.1).toNat) ++ List.replicate (a9.2.length - ((a9.1).toNat)) tyRec.dflt)).take ((a9.1).toNat)))
theorem zm3 {W:World} {hdp0:Sl3} {bp1_c0:Nat} {p0:List Rec} {p1_c0:Int} {r:(List Rec)} (h:zfi p0 p1_c0=some r) :
    CSpec Tryz.prog W 62 [hdp0.v,.func (.func 63) #[] #[ptr bp1_c0 0]] [sl tyRec hdp0.v p0,blk bp1_c0 3 [.int .i64 p1_c0]] (fun x:Sl3=>x.v) (fun _=>True) (fun x F=>blk bp1_c0 3 [.int .i64 p1_c0]::sl tyRec x.v r::F) := by
 refine CSpec.of_body Tryz.func62 rfl Tryz.ntmps62 rfl fun F => ?_
 show CJ _ _ _ _ _ _ (_::_::F)
 unfold zfi at h
 refine lC del0 fun hlen1=>sR<|oA rfl<|nT<|sR<|oM rfl<|oM rfl ?_
 obtain ⟨r2,hr3,h⟩ := zb9 h
 refine oO<|zai (zeh (Reads.sl _ _ _) hr3) rfl Tryz.call87 (Dels.cons del0 (dC_ del0)) rfl fun _ _=>oA rfl<|nT<|zab<|sR<|oM rfl<|oP (P_eql (a:=r2) (b:=(-1:Int)) rfl rfl)<|nT<|zbt rfl zaq (fun hg1 => ?_) (fun hg1 => ?_)
 ·
  replace h := ite_t hg1 h
  refine sR<|oM rfl<|oA rfl<|nT<|zaf<|zak ?_
  cases h
  exact fE (res1 Tryz.results62 rfl) hdp0 (t1_ r_)
 ·
  replace h := ite_f hg1 h
  refine kT<|zab<|sR<|oM rfl ?_
  obtain ⟨hg2,h⟩ := zcm h
  refine oP (P_add (a:=r2) (b:=(1:Int)) rfl rfl hg2)<|oA rfl<|nT ?_
  obtain ⟨y6,hl4,hK5⟩ := zh5 h
  refine zdg (X:=Int × (List Rec)) [5,6,7,16,17,18,19,20,21,22,23,24,25,26,27,28,29,30,31,32,33,34,35] (fun a9=>([(5,.int .i64 a9.1)]:Slots)) (fun a9 R=>sl tyRec hdp0.v a9.2::R) (fun a9=>y6=a9) (dC_ del0) ?_ ?_
  ·
   refine zao<|za8 (X:=Nat × (List Rec) × Int × Int) [5,6,7,16,17,18,19,20,21,22,23,24,25,26,27,28,29,30,31,32,33,34,35] (fun ⟨n,x10,x11,x12⟩=>([(5,.int .i64 x11),(6,.int .i64 x12)]:Slots)) (fun ⟨n,x10,x11,x12⟩ R=>sl tyRec hdp0.v x10::R) (fun ⟨n,x10,x11,x12⟩=>zdd p1_c0 n x10 x11 x12=some y6) (fun ⟨n,x10,x11,x12⟩=>n) ⟨FUEL,p0,r2,(r2 + (1:Int))⟩ ?_ ?_ r_ ?_
   · exact hl4
   · exact ⟨rfl,rfl,True.intro⟩
   ·
    rintro ⟨n,x10,x11,x12⟩ h
    cases n with
    | zero=>exact zdr h
    | succ n => ?_
    replace h:zdt p1_c0 (zdd p1_c0 n) x10 x11 x12=some y6 := h
    unfold zdt at h
    show CJ _ _ _ _ _ (([(5,.int .i64 x11),(6,.int .i64 x12)]:Slots) ++ forget _ _) (sl tyRec hdp0.v x10::_)
    refine lC del0 fun hlen13=>zab<|sR<|oM rfl<|oM rfl<|oV (V_len rfl foc0 (Reads.sl _ _ _) Tryz.runUnderlying71)<|oP (P_lss (a:=x12) (b:=((x10.length:Nat):Int)) rfl rfl)<|nT<|zbt rfl zaq (fun hg3 => ?_) (fun hg3 => ?_)
    ·
     replace h := ite_t hg3 h
     refine kT<|zab<|zao<|sR<|oM rfl<|oM rfl ?_
     obtain ⟨hg4,h⟩ := zck h
     refine oV (zam (i:=(x12).toNat) rfl rfl (Int.toNat_of_nonneg (hg4.1)).symm (by omega) foc0 (Reads.sl _ _ _) Tryz.runUnderlying71 Tryz.sizeOf164)<|oV (zdb rfl rfl (by omega) foc0 (Reads.sl _ _ _) rfl rfl Tryz.isAgg164 Tryz.sizeOf164)<|oO<|zbi Tryz.zeroValue164 rfl rfl fun b14=>oO<|zbo rfl rfl foc0 Tryz.sizeOf164 rfl rfl rfl<|nT<|sR<|oM rfl<|oV (zbq rfl foc0 Tryz.isAgg164 Tryz.sizeOf164 rfl rfl) ?_
     obtain ⟨r15,hr16,h⟩ := zb9 h
     refine oO<|zdz rfl rfl (zhc hr16) Tryz.call63 (dC_ del2) rfl fun _ _=>oP (P_not rfl)<|nT<|zbt rfl (zh1 Iff.rfl) (fun hg5 => ?_) (fun hg5 => ?_)
     ·
      replace h := ite_t hg5 h
      refine sR<|oM rfl<|oM rfl<|oV (zbq rfl foc1 Tryz.isAgg164 Tryz.sizeOf164 rfl rfl) ?_
      obtain ⟨hg6,h⟩ := zck h
      refine oV (zam (i:=(x11).toNat) rfl rfl (Int.toNat_of_nonneg (hg6.1)).symm (by omega) foc2 (Reads.sl _ _ _) Tryz.runUnderlying71 Tryz.sizeOf164)<|oO<|zd9 (x' := (x10.getD ((x12).toNat) r0)) rfl rfl rfl (by omega) foc2 rfl Tryz.sizeOf164<|nT<|zag<|oM rfl ?_
      obtain ⟨hg7,h⟩ := zcm h
      refine oP (P_add (a:=x11) (b:=(1:Int)) rfl rfl hg7)<|oA rfl<|za0<|zah<|zar<|zag<|oM rfl ?_
      obtain ⟨hg8,h⟩ := zcm h
      exact oP (P_add (a:=x12) (b:=(1:Int)) rfl rfl hg8)<|oA rfl<|za0<|nR ⟨n,(x10.set ((x11).toNat) ((x10.getD ((x12).toNat) r0))),(x11 + (1:Int)),(x12 + (1:Int))⟩ h ⟨rfl,rfl,True.intro⟩ (t2_ (t0_ (e_ r_)))
     ·
      replace h := ite_f hg5 h
      refine zbh<|zah<|zar<|zag<|oM rfl ?_
      obtain ⟨hg9,h⟩ := zcm h
      exact oP (P_add (a:=x12) (b:=(1:Int)) rfl rfl hg9)<|oA rfl<|za0<|nR ⟨n,x10,x11,(x12 + (1:Int))⟩ h ⟨rfl,rfl,True.intro⟩ (t2_ (t0_ (e_ r_)))
    ·
     replace h := ite_f hg3 h
     exact zbc<|zay<|zau<|zat<|cR (x11,x10) (Option.some.inj h).symm ⟨rfl,True.intro⟩ r_
  ·
   rintro a9 hy17
   replace h := zgj hK5 hy17
   show CJ _ _ _ _ _ (([(5,.int .i64 a9.1)]:Slots) ++ forget _ _) (sl tyRec hdp0.v a9.2::_)
   refine lC del0 fun hlen18=>sR<|oM rfl<|oM rfl ?_
   obtain ⟨hg10,h⟩ := zck h
   refine oV (zmm (l:=(a9.1).toNat) (h:=a9.2.length) rfl foc0 (Reads.sl _ _ _) ⟨_,by rw [Int.toNat_of_nonneg (by omega)]; exact rfl⟩ rfl (by omega) (by omega) Tryz.underlying71 Tryz.sizeOf164)<|oO<|z0d (l:=(a9.1).toNat) rfl (by omega) foc0 Tryz.underlying71 Tryz.zeroValue164 rfl<|nT<|sR<|oM rfl<|oM rfl ?_
   obtain ⟨hg11,h⟩ := zck h
   refine oV (zmm (l:=0) (h:=(a9.1).toNat) rfl foc0 (Reads.sl _ _ _) rfl ⟨_,by rw [Int.toNat_of_nonneg (by omega)]; exact rfl⟩ (by omega) (by omega) Tryz.underlying71 Tryz.sizeOf164)<|oA rfl<|nT<|zaf<|z0b (Ent.transX r_ (zvq (h:=(a9.1).toNat) (by omega))) fun hd19=>QJ_pur fun e20 => ?_
   rw [e20]
   cases h
   exact fE (res1 Tryz.results62 rfl) ⟨hd19.1,(((a9.2.take ((a9.1).toNat) ++ List.replicate (a9.2.length - ((a9.1).toNat)) tyRec.dflt)).take ((a9.1).toNat)).length,hd19.2⟩ (t1_ r_)
theorem zms {α:Type} {l:List α} {i:Nat} {d:α} (h:i < l.length):l.getD i d=l[i] := by simp [List.getD,h]
theorem zv7 (p:List Rec) (c:Int) (hl:p.length≤1000000000):∀ n k,p.length < n + k→k≤p.length→(∀ j,j < k → ¬ ((p.getD j r0).d:Int)=c) →
    (zbn p c n k=some (.inl ()) ∧ ∀ j,j < p.length → ¬ ((p.getD j r0).d:Int)=c) ∨
    ∃ i,i < p.length∧zbn p c n k=some (.inr (i:Int))∧((p.getD i r0).d:Int)=c ∧ ∀ j,j < i → ¬ ((p.getD j r0).d:Int)=c := by
  intro n
  induction n with
  | zero=>intro k h1 h2; omega
  | succ n ih =>
    intro k h1 h2 h3
    simp only [zbn,zb6,zdh,Option.bind_some,grd]
    by_cases hk:k < p.length
    · have e1:((k:Int) < (p.length:Int)) := by omega
      rw [if_pos e1]
      by_cases hd:((p.getD k r0).d:Int)=c
      · refine .inr ⟨k,hk,?_,hd,h3⟩
        simp only [hd,decide_true,if_true]
      · simp only [hd,decide_false,Bool.false_eq_true,if_false]
        refine ih (k + 1) (by omega) hk fun j hj => ?_
        rcases Nat.lt_or_ge j k with h | h
        · exact h3 j h
        · obtain rfl:j=k := by omega
          exact hd
    · have e1:¬ ((k:Int) < (p.length:Int)) := by omega
      rw [if_neg e1]
      exact .inl ⟨rfl,fun j hj=>h3 j (by omega)⟩
def keepR (c:Int) (r:Rec):Bool := !decide ((r.d:Int)=c)
theorem zu4 (p:List Rec) (c:Int) (hl:p.length≤1000000000):∀ n (xs:List Rec) (i j:Nat),p.length < n + j→j≤p.length→i < j→xs.length=p.length→xs.take i=(p.take j).filter (keepR c)→xs.drop j=p.drop j →
    ∃ ys:List Rec, ∃ i':Nat,zdd c n xs (i:Int) (j:Int)=some ((i':Int),ys)∧ys.length=p.length∧i' ≤ p.length∧ys.take i' = p.filter (keepR c) := by
  intro n
  induction n with
  | zero=>intro xs i j h1 h2; omega
  | succ n ih =>
    intro xs i j h1 h2 h3 h4 h5 h6
    simp only [zdd,zdt,zdh,Option.bind_some,grd,Int.toNat_natCast]
    have hi64:∀ k:Nat,k≤p.length→inI64 ((k:Int) + 1)=true := fun k hk=>by exact inI64_iff.2 ⟨by omega,by omega⟩
    by_cases hj:j < p.length
    · rw [if_pos (by omega)]
      have hx:xs.getD j r0=p.getD j r0 := by
        have := congrArg (fun l=>l.getD 0 r0) h6
        simpa [List.getD] using this
      have ht:p.take (j + 1)=p.take j ++ [p.getD j r0] := by rw [List.take_succ_eq_append_getElem hj,zms hj]
      have hd:xs.drop (j + 1)=p.drop (j + 1) := by
        have := congrArg (List.drop 1) h6
        simpa [List.drop_drop] using this
      by_cases hc:((p.getD j r0).d:Int)=c
      · simp only [hx,hc,decide_true,not_true_eq_false,if_false,hi64 j (by omega),if_true,cond_true]
        rw [show decide (0≤(j:Int)∧(j:Int) < (xs.length:Int))=true from decide_eq_true (by omega)]
        refine ih xs i (j + 1) (by omega) hj (by omega) h4 ?_ hd
        have hk:¬ keepR c (p.getD j r0)=true := by unfold keepR; simp only [hc,decide_true]; decide
        rw [ht,List.filter_append,h5,List.filter_cons_of_neg hk,List.filter_nil,List.append_nil]
      · simp only [hx,hc,decide_false,Bool.false_eq_true,not_false_eq_true,if_true,hi64 j (by omega),hi64 i (by omega),cond_true]
        rw [show decide (0≤(j:Int)∧(j:Int) < (xs.length:Int))=true from decide_eq_true (by omega),show decide (0≤(i:Int)∧(i:Int) < (xs.length:Int))=true from decide_eq_true (by omega)]
        refine ih (xs.set i (p.getD j r0)) (i + 1) (j + 1) (by omega) hj (by omega) (by simpa using h4) ?_ ?_
        · rw [ht,List.filter_append, ← h5]
          have hk:keepR c (p.getD j r0)=true := by unfold keepR; simp only [hc,decide_false]; decide
          rw [List.take_succ_eq_append_getElem (by simp; omega),List.take_set_of_le (Nat.le_refl _),List.getElem_set_self,List.filter_cons_of_pos hk,List.filter_nil]
        · rw [List.drop_set_of_lt (by omega)]; exact hd
    · rw [if_neg (by omega)]
      obtain rfl:j=p.length := by omega
      exact ⟨xs,i,rfl,h4,by omega,by rw [h5,List.take_length]⟩
theorem zrc {p:List Rec} {c:Int} (hl:p.length≤1000000000):zfi p c=some (p.filter fun r => !decide ((r.d:Int)=c)) := by
  unfold zfi zb8
  have hF := zkn
  generalize FUEL=N at hF ⊢
  rcases zv7 p c hl N 0 (by omega) (Nat.zero_le _) (fun j hj=>by omega) with ⟨h1,h2⟩ | ⟨i,h1,h2,h3,h4⟩
  · rw [h1]
    simp only [seqO,Option.bind_some,Sum.elim_inl]
    rw [if_pos trivial]
    refine congrArg some (List.filter_eq_self.2 fun r hr => ?_).symm
    obtain ⟨j,hj,rfl⟩ := List.getElem_of_mem hr
    have := h2 j hj
    rw [zms hj] at this
    simpa using this
  · rw [h2]
    simp only [seqO,Option.bind_some,Sum.elim_inr]
    rw [if_neg (by omega)]
    have hf:p.take i=(p.take (i + 1)).filter (keepR c) := by
      rw [List.take_succ_eq_append_getElem h1,List.filter_append]
      have e1:(p.take i).filter (keepR c)=p.take i := List.filter_eq_self.2 fun r hr=>by
        obtain ⟨j,hj,rfl⟩ := List.getElem_of_mem hr
        have hj':j < i := by simp at hj; omega
        have := h4 j hj'
        rw [zms (by omega)] at this
        simpa [keepR] using this
      rw [e1]
      rw [zms h1] at h3
      simp [keepR,h3]
    obtain ⟨ys,i',h5,h6,h7,h8⟩ := zu4 p c hl N p i (i + 1) (by omega) (by omega) (by omega) rfl hf rfl
    have e2:((i:Int) + 1)=((i + 1:Nat):Int) := by omega
    rw [ztw (show inI64 ((i:Int) + 1)=true by exact inI64_iff.2 ⟨by omega,by omega⟩),e2,h5]
    simp only [Option.bind_some,Int.toNat_natCast]
    rw [grd_d (by omega),grd_d (by simp; omega)]
    refine congrArg some ?_
    rw [List.take_append_of_le_length (by simp; omega),List.take_take,Nat.min_self,h8]
    rfl
theorem ztm {W:World} {v:Sl3} {b:Nat} {p:List Rec} {d:Int} (hl:p.length≤1000000000) (TI:Nat := 3) :
    CSpec Tryz.prog W 62 [v.v,.func (.func 63) #[] #[ptr b 0]] [sl tyRec v.v p,blk b 3 [.int .i64 d]] (fun x:Sl3=>x.v) (fun _=>True) (fun x F=>blk b 3 [.int .i64 d]::sl tyRec x.v (p.filter fun r => !decide ((r.d:Int)=d))::F) :=
  zm3 (zrc hl)
end Go.Proofs
set_option linter.unusedSimpArgs false
set_option maxRecDepth 20000
namespace Go.Proofs
open Go.VG
theorem zm4 (v0:Int) (v1:Int):∀ w,(Instr.build 162 (#[(0,.int .i64 v0),(1,.int .i64 v1)]:Array (Nat × Value))).run Tryz.prog w = .ok (.agg #[.int .i64 v0,.int .i64 v1]) w := fun w=>by kernel_rfl
def ldC (s:ArrS) (d:Int) (im:List UInt64):Int := if inR s d then (if im.length=(s.drv.getD d.toNat d0).now.length then 0 else 3) else 1
def zgx (m:List ((Int × Int) × Unit)) (d:Int) (k:Nat):List ((Int × Int) × Unit) := (List.range k).foldl (fun m (j:Nat)=>delM m (d,(j:Int))) m
theorem zl5 (m:List ((Int × Int) × Unit)) (d:Int) (k:Nat):delM (zgx m d k) (d,(k:Int))=zgx m d (k + 1) := by
  simp [zgx,List.range_succ,List.foldl_append]
def ldS (s:ArrS) (d:Int) (im:List UInt64):ArrS :=
  if ldC s d im=0 then { s with drv := s.drv.set d.toNat ⟨im,im,(s.drv.getD d.toNat d0).miss⟩,bad := zgx s.bad d im.length,log := s.log.filter fun r => !decide ((r.d:Int)=d) } else s
theorem zoq {xs ys:List UInt64} (h:ys.length=xs.length):zfo xs ys=ys := by
  unfold zfo; rw [h,Nat.min_self, ← h,List.take_length,List.drop_of_length_le (by omega),List.append_nil]
theorem z0p {s:ArrS} {i:Nat} {im:List UInt64} {m:List ((Int × Int) × Unit)} (hw:ArrWF s) (hi:i < s.drv.length) (hl:im.length=(s.drv.getD i d0).now.length) :
    ArrWF { s with drv := s.drv.set i ⟨im,im,(s.drv.getD i d0).miss⟩,bad := m,log := s.log.filter fun r => !decide ((r.d:Int)=(i:Int)) } := by
  have hsz:∀ x,ArrS.size { s with drv := s.drv.set i ⟨im,im,(s.drv.getD i d0).miss⟩,bad := m,log := s.log.filter fun r => !decide ((r.d:Int)=(i:Int)) } x=s.size x := fun x=>by
    show ((s.drv.set i _).getD x d0).now.length=(s.drv.getD x d0).now.length
    simp only [List.getD,List.getElem?_set]
    by_cases hx:i=x
    · subst hx; simp [hi,List.getD] at hl ⊢; exact hl
    · simp [hx]
  have hsub:∀ r ∈ s.log.filter (fun r => !decide ((r.d:Int)=(i:Int))),r.d < s.drv.length∧r.a < s.size r.d := fun r hr=>by
    obtain ⟨j,hj,rfl⟩ := List.getElem_of_mem (List.mem_filter.1 hr).1
    have := hw.log j hj
    simpa [List.getD,hj] using this
  refine { cnt := by simpa using hw.cnt,same := fun j hj => ?_,log := fun j hj => ?_,len := Nat.le_trans (List.length_filter_le _ _) hw.len,fuse := hw.fuse }
  · have hj':j < s.drv.length := by simpa using hj
    have := hw.same j hj'
    show ((s.drv.set i _).getD j d0).now.length=((s.drv.set i _).getD j d0).dur.length∧((s.drv.set i _).getD j d0).now.length≤65536
    simp only [List.getD,List.getElem?_set] at this hl ⊢
    by_cases hx:i=j
    · subst hx; simp [hi] at this hl ⊢; omega
    · simpa [hx] using this
  · rw [hsz]
    have := hsub _ (List.getElem_mem hj)
    have e:∀ (l:List Rec) (h:j < l.length),l.getD j r0=l[j] := fun l h=>by simp [List.getD,h]
    rw [e _ hj]
    exact ⟨by simpa using this.1,this.2⟩
theorem z0q {W:World} {b:Nat} {s:ArrS} {d:Int} {A:HP} {v:Value} {im:List UInt64} (hA:Reads A tyU v im) (hW:s.writes≤1000000000) :
    CSpec Tryz.prog W 32 [ptr b 0,.int .i64 d,v] [Arr b s,A] (fun _:Unit => .int .i64 (ldC s d im)) (fun _=>True) (fun _ F=>Arr b (ldS s d im)::A::F) := by
 refine CSpec.of_body Tryz.func32 rfl Tryz.ntmps32 rfl fun F => ?_
 show CJ _ _ _ _ _ _ (_::_::F)
 refine zc7 (Ent.transX r_ zdq) fun ⟨dv,lv,mr,l⟩=>zdk fun hX => ?_
 obtain ⟨hl,hm,hw⟩:l.map Prod.snd=(s).drv∧(∀ p ∈ l,p.1.miss=p.2.miss)∧ArrWF (s) := hX
 show CJ _ _ _ _ _ _ (blk b 73 [Sl3.v dv,.map (some mr),Sl3.v lv,_,_,_]::sl tyDrv (Sl3.v dv) (DL.hs l)::DOwn l::sl tyRec (Sl3.v lv) _::mpc mBad mr _::_)
 have hn := zfc hl
 have hwF := hw.fuse
 have hwL := hw.len
 have hwC := hw.cnt
 refine sR<|oO<|O_box rfl rfl rfl fun b1=>oA rfl<|nT<|zab<|zab<|za3 0 kR_ rfl<|aW 0 1 rfl rfl r_ (zac rfl foc0 rfl Tryz.isAgg3)<|aN 1 3 rfl rfl (P_lss rfl rfl)<|aN 2 7 rfl rfl (zae rfl) ?_
 first | (refine zi9 11 rfl (fun hg1B hg1 => ?_) (fun hg1B hg1 => ?_)) | (refine zja 11 rfl (fun hg1B hg1 => ?_) (fun hg1B hg1 => ?_)) | (refine zkj 11 rfl (fun hg1B => ?_) (fun hg1B => ?_))
 ·
  refine aS 3 15 rfl rfl (GY_no rfl rfl rfl hg1B)<|aS 4 31 rfl rfl (GY_no rfl rfl rfl hg1B)<|aS 5 63 rfl rfl (GY_no rfl rfl rfl hg1B)<|aS 6 127 rfl rfl (GY_no rfl rfl rfl hg1B)<|aS 7 255 rfl rfl (GY_no rfl rfl rfl hg1B)<|aS 8 511 rfl rfl (GY_no rfl rfl rfl hg1B)<|aS 9 1023 rfl rfl (GY_no rfl rfl rfl hg1B)<|aN 10 2047 rfl rfl (zbe rfl hg1B rfl)<|aD<|za7 rfl rfl<|sR<|oA rfl<|nT<|zaf<|zak<|zan (res1 Tryz.results32 rfl) ?_
  have hR:¬ inR s d := fun h=>by unfold inR at h; omega
  have hC:ldC s d im=1 := if_neg hR
  rw [show ldS s d im=s from if_neg (by rw [hC]; decide)]
  refine CSpec.close () ?_ ?_ (Ent.trans (Ent.trans (t1_ (t1_ (t1_ (t1_ (t1_ r_))))) (zcl hl hm hw)) (t0_ (t1_ (e_ r_))))
  · exact iv hC.symm
  · trivial
 ·
  refine aV 3 15 rfl rfl (zaz rfl rfl rfl hg1B) r_ (zac rfl foc0 rfl Tryz.isAgg3)<|aP 4 31 rfl rfl (zaz rfl rfl rfl hg1B) (zae rfl)<|aP 5 63 rfl rfl (zaz rfl rfl rfl hg1B) (zad rfl)<|aP 6 127 rfl rfl (zaz rfl rfl rfl hg1B) (zaa rfl ⟨_,_,_,Tryz.runUnderlying73,rfl,rfl,Tryz.sizeOf70,rfl⟩)<|aV 7 255 rfl rfl (zaz rfl rfl rfl hg1B) r_ (zac rfl foc1 rfl Tryz.isAgg70)<|aV 8 511 rfl rfl (zaz rfl rfl rfl hg1B) r_ (V_len rfl foc2 (Reads.sl _ _ _) Tryz.runUnderlying70)<|aP 9 1023 rfl rfl (zaz rfl rfl rfl hg1B) (P_geq rfl rfl)<|aN 10 2047 rfl rfl (za2 rfl hg1B rfl)<|aD ?_
  first | (refine zav rfl (fun hg2 => ?_) (fun hg2 => ?_)) | (refine zaw rfl (fun hg2 => ?_) (fun hg2 => ?_)) | (refine za1 rfl (fun hg2 => ?_) (fun hg2 => ?_))
  ·
   refine sR<|oA rfl<|nT<|zaf<|zak<|zan (res1 Tryz.results32 rfl) ?_
   have hR:¬ inR s d := fun h=>by unfold inR at h; omega
   have hC:ldC s d im=1 := if_neg hR
   rw [show ldS s d im=s from if_neg (by rw [hC]; decide)]
   refine CSpec.close () ?_ ?_ (Ent.trans (Ent.trans (t1_ (t1_ (t1_ (t1_ (t1_ r_))))) (zcl hl hm hw)) (t0_ (t1_ (e_ r_))))
   · exact iv hC.symm
   · trivial
  ·
   have hR:inR s d := ⟨by omega,by omega⟩
   obtain ⟨i,rfl⟩ := Int.eq_ofNat_of_zero_le hR.1
   have hsm := hw.same i (by omega)
   refine kT<|zab<|zbs (Ent.trans (t3_ r_) (zfr i hl (by omega)))<|za3 256 kR_ rfl<|aN 0 1 rfl rfl (zae rfl)<|aN 1 3 rfl rfl (zad rfl)<|aN 2 7 rfl rfl (zaa rfl ⟨_,_,_,Tryz.runUnderlying73,rfl,rfl,Tryz.sizeOf70,rfl⟩)<|aW 3 15 rfl rfl r_ (zac rfl foc4 rfl Tryz.isAgg70)<|aW 4 31 rfl rfl r_ (zac rfl foc3 rfl Tryz.isAgg3) ?_
   first | (refine zbj 5 63 rfl kR_ rfl kR_ kR_ (zal rfl) r_ (zam rfl rfl rfl (by omega) foc5 (Reads.sl _ _ _) Tryz.runUnderlying70 Tryz.sizeOf75) rfl (fun _ _ _ _ h=>h) ?_) | (refine zbj 5 63 rfl kR_ rfl kR_ kR_ (zal rfl) r_ (zam rfl rfl (Int.toNat_of_nonneg (by omega)).symm (by omega) foc5 (Reads.sl _ _ _) Tryz.runUnderlying70 Tryz.sizeOf75) rfl (fun _ _ _ _ h=>h) ?_)
   refine aW 6 127 rfl rfl r_ (zdb rfl rfl (by omega) foc5 (Reads.sl _ _ _) rfl rfl Tryz.isAgg75 Tryz.sizeOf75)<|AJ_op 7 255 rfl kR_ rfl (zal rfl)<|zbi Tryz.zeroValue75 rfl rfl fun b2=>⟨fun _=>(t1_ (t1_ (t1_ (t1_ (t1_ (t1_ (t1_ (t1_ (t1_ (e_ r_)))))))))),?_⟩
   refine AJ_op 8 511 rfl kR_ rfl (zal rfl)<|zbo rfl rfl foc0 Tryz.sizeOf75 rfl rfl rfl<|⟨fun h=>absurd h (by decide),?_⟩
   refine aD<|zab<|sR<|oM rfl<|oV (V_len rfl foc9 hA Tryz.runUnderlying44)<|oP (zaa rfl ⟨_,_,_,Tryz.runUnderlying75,rfl,rfl,Tryz.sizeOf44,rfl⟩)<|oV (zac rfl foc0 rfl Tryz.isAgg44)<|oV (V_len rfl foc1 (Reads.sl _ _ _) Tryz.runUnderlying44)<|oP (P_neq rfl rfl)<|nT ?_
   first | (refine zav rfl (fun hg3 => ?_) (fun hg3 => ?_)) | (refine zaw rfl (fun hg3 => ?_) (fun hg3 => ?_)) | (refine za1 rfl (fun hg3 => ?_) (fun hg3 => ?_))
   ·
    refine sR<|oA rfl<|nT<|zaf<|zak<|zan (res1 Tryz.results32 rfl) ?_
    have hC:ldC s i im=3 := by rw [ldC,if_pos hR,if_neg (by show ¬ im.length=(s.drv.getD i d0).now.length; omega)]
    rw [show ldS s i im=s from if_neg (by rw [hC]; decide)]
    refine CSpec.close () ?_ ?_ (Ent.trans (Ent.trans (t1_ (t1_ (t1_ r_))) (zlx hl (by omega))) (Ent.trans (Ent.trans (t3_ (t3_ (t0_ (t2_ (t2_ r_))))) (zcl hl hm hw)) (t0_ (t2_ (e_ (e_ r_))))))
    · exact iv hC.symm
    · trivial
   ·
    refine kT<|sR<|oP (zaa rfl ⟨_,_,_,Tryz.runUnderlying75,rfl,rfl,Tryz.sizeOf44,rfl⟩)<|oV (zac rfl foc0 rfl Tryz.isAgg44)<|oM rfl<|oO<|zrn (t:=tyU) (bytes:=8) rfl rfl del1 foc8 hA Tryz.underlying44 zjw rfl<|nT<|sR<|oP (zaa rfl ⟨_,_,_,Tryz.runUnderlying75,rfl,rfl,Tryz.sizeOf44,rfl⟩)<|oV (zac rfl foc1 rfl Tryz.isAgg44)<|oM rfl<|oO<|zrn (t:=tyU) (bytes:=8) rfl rfl del2 foc8 hA Tryz.underlying44 zjw rfl<|nT<|sR<|oM rfl<|oM rfl<|oP (zad rfl)<|oP (zaa rfl ⟨_,_,_,Tryz.runUnderlying73,rfl,rfl,Tryz.sizeOf71,rfl⟩)<|oV (zac rfl foc5 rfl Tryz.isAgg71)<|oP (zbb rfl rfl)<|oO<|zai (ztm (by omega)) rfl Tryz.call62 (Dels.cons del7 (dC_ del4)) rfl fun dx3 hc5=>oP (zad rfl)<|oP (zaa rfl ⟨_,_,_,Tryz.runUnderlying73,rfl,rfl,Tryz.sizeOf71,rfl⟩)<|oO<|za5 rfl rfl foc6 rfl rfl Tryz.sizeOf71<|nT<|zab<|sR<|oM rfl<|oV (V_len rfl foc9 hA Tryz.runUnderlying44)<|oM rfl<|nT<|zao<|za8 (X:=Nat) [8,52,53,54,55,56,57,58,59,60,61,62] (fun k  => ([(52,.int .i64 (k:Nat))]:Slots)) (fun k R=>mpc mBad mr (zgx s.bad i k)::R) (fun k  => k≤im.length) (fun k  => im.length - k) (0) ?_ ?_ (t8_ r_) ?_
    · exact Nat.zero_le _
    · exact ⟨rfl,True.intro⟩
    ·
     intro k hk
     show CJ _ _ _ _ _ (([(52,.int .i64 (k:Nat))]:Slots) ++ forget _ _) (mpc mBad mr (zgx s.bad i k)::_)
     refine sR<|oP (P_lss rfl rfl)<|nT<|zab ?_
     first | (refine zav rfl (fun hg4 => ?_) (fun hg4 => ?_)) | (refine zaw rfl (fun hg4 => ?_) (fun hg4 => ?_)) | (refine za1 rfl (fun hg4 => ?_) (fun hg4 => ?_))
     ·
      refine kT<|zab<|zao<|sR<|oM rfl<|oA rfl<|nT<|za3 128 kR_ rfl<|aN 0 1 rfl rfl (zae rfl)<|aN 1 3 rfl rfl (zad rfl)<|aN 2 7 rfl rfl (zaa rfl ⟨_,_,_,Tryz.runUnderlying73,rfl,rfl,Tryz.sizeOf69,rfl⟩)<|aW 3 15 rfl rfl r_ (zac rfl foc7 rfl Tryz.isAgg69)<|aW 4 31 rfl rfl r_ (zac rfl foc1 rfl Tryz.isAgg3)<|aN 5 63 rfl rfl (zae rfl)<|aN 6 127 rfl rfl (zbk rfl (zm4 _ _))<|AJ_op 7 255 rfl kR_ rfl (zal rfl)<|znt (M:=mBad) (k:=((i:Int),(k:Int))) rfl rfl foc0 zmq<|⟨fun h=>absurd h (by decide),?_⟩
      refine zcf kR_<|zah<|zar<|zag<|oP (P_add rfl rfl (by omega))<|oM rfl<|za0<|zba (k + 1) (by first | omega | (simp only []; omega)) ?_ kP_ ?_ (Ent.takeC del0 (congrArg (mpc mBad mr) (zl5 _ _ _)) r_)
      · omega
      · exact ⟨rfl,True.intro⟩
     ·
      refine zbc<|zay<|zau<|zat<|zar<|sR<|oA rfl<|nT<|zaf<|zan (res1 Tryz.results32 rfl) ?_
      obtain rfl:k=im.length := by omega
      have hC:ldC s i im=0 := by rw [ldC,if_pos hR,if_pos (show im.length=(s.drv.getD ((i:Int)).toNat d0).now.length by rw [Int.toNat_natCast]; omega)]
      rw [show ldS s i im=_ from if_pos hC]
      refine CSpec.close () ?_ ?_ (Ent.trans (Ent.trans (t7_ (t7_ (Ent.takeC del4 (by rw [zoq (by omega)]) (Ent.takeC del3 (by rw [zoq (by omega)]) (t4_ (t2_ r_)))))) (zik (s' := { s with drv := s.drv.set i ⟨im,im,(s.drv.getD i d0).miss⟩,bad := zgx s.bad i im.length,log := s.log.filter fun r => !decide ((r.d:Int)=(i:Int)) }) (lv:=dx3) i ⟨im,im,(s.drv.getD i d0).miss⟩ hl hm (by omega) rfl rfl (z0p hw (by omega) (by omega)))) (t0_ (t2_ (e_ (e_ r_)))))
      · exact iv hC.symm
      · trivial
end Go.Proofs
set_option linter.unusedSimpArgs false
set_option linter.unusedVariables false
set_option maxRecDepth 20000
set_option maxHeartbeats 4000000
namespace Go.Proofs
open Go.VG
abbrev tyDev:Ty IfH := { T := 38,sz := 1,enc := fun x=>[.iface x.t x.u],dflt := ⟨0,.bool false⟩,len := fun _=>rfl,one := fun _=>rfl,pos := by decide }
theorem zny:ElemOk Tryz.prog tyDev 16 := ⟨Tryz.t38,.nilIface,by kernel_rfl,rfl,rfl,rfl,rfl⟩
structure Dvc where
  dep:Nat
  size:ArrS→Option Int
  rd:ArrS→Int→Option (UInt64 × Int)
  wr:ArrS→Int→UInt64→Option (Int × ArrS)
  fl:ArrS→Option (Int × ArrS)
structure DevOk (a:Nat) (x:Dvc) (h:IfH) (R:HP):Prop where
  dup:Dup R
  dep:x.dep≤60
  nil : ∀ n, 1 ≤ n → ∀ w, (nilAhead n h.t h.u "Write").run Tryz.prog w = .ok (some false) w
  size : ∀ {W s r}, x.size s = some r → IOk Tryz.prog W x.dep h "Size" [] [R, Arr a s] (fun _ : Unit => .int .i64 r) (fun _ => True) (fun _ F => R :: Arr a s :: F)
  rd : ∀ {W s k r}, x.rd s k = some r → IOk Tryz.prog W x.dep h "Read" [.int .i64 k] [R, Arr a s] (fun _ : Unit => .tuple #[.int .u64 (r.1.toNat : Int), .int .i64 r.2]) (fun _ => True) (fun _ F => R :: Arr a s :: F)
  wr : ∀ {W s k v r}, x.wr s k v = some r → IOk Tryz.prog W x.dep h "Write" [.int .i64 k, .int .u64 (v.toNat : Int)] [R, Arr a s] (fun _ : Unit => .int .i64 r.1) (fun _ => True) (fun _ F => R :: Arr a r.2 :: F)
  fl : ∀ {W s r}, x.fl s = some r → IOk Tryz.prog W x.dep h "Flush" [] [R, Arr a s] (fun _ : Unit => .int .i64 r.1) (fun _ => True) (fun _ F => R :: Arr a r.2 :: F)
def DevP (a:Nat) (x:Dvc) (h:IfH):HP := ex fun R:HP=>starX [emp (DevOk a x h R),R]
theorem z0r {a:Nat} {x:Dvc} {h:IfH} {l:List HP} {R:List HP} (hk:DevOk a x h (starX l)):Ent (l ++ R) (DevP a x h::R) :=
  fun g hg=>stars_ex.2 ⟨starX l,stars_starX.2 (stars_emp.2 ⟨hk,stars_starX.2 hg⟩)⟩
theorem zx3 {a:Nat} {x:Dvc} {h:IfH} : Dup (DevP a x h) := by
  intro g ⟨R,h1,h2,hd,he,⟨hk,hn⟩,h3,h4,hd2,he2,hR,h5⟩ k
  exact (Dup.starX (Hs:=[emp (DevOk a x h R),R]) (by intro A hA; simp only [List.mem_cons,List.not_mem_nil,or_false] at hA; rcases hA with rfl | rfl; exact Dup.emp; exact hk.dup)) g ⟨h1,h2,hd,he,⟨hk,hn⟩,h3,h4,hd2,he2,hR,h5⟩ k
abbrev tyRow:Ty Sl3 := { T := 44,sz := 1,enc := fun x=>[x.v],dflt := ⟨none,0,0⟩,len := fun _=>rfl,one := fun _=>rfl,pos := by decide }
def Sl3.sub (sz:Nat) (x:Sl3) (l h:Nat):Sl3 := ⟨if x.c=l then x.p else x.p.map (·.add (l * sz)),h - l,x.c - l⟩
def RowP (x:List UInt64) (h:Sl3):HP := fun g => ∃ A:HP,Dup A∧Reads A tyU h.v x∧A g
theorem Reads.rowP {x:List UInt64} {h:Sl3} : Reads (RowP x h) tyU h.v x := fun g ⟨_,_,hr,hA⟩=>hr g hA
def RowsR (B:HP) (l:List (List UInt64)) (hs:List Sl3):Prop := hs.length=l.length ∧ ∀ i,i < l.length→Reads B tyU (Sl3.v (hs.getD i tyRow.dflt)) (l.getD i [])
theorem RowsR.nil {B:HP} : RowsR B [] [] := ⟨rfl,fun i h=>absurd h (by simp)⟩
theorem RowsR.cons {A:HP} {As:List HP} {x:List UInt64} {g:Sl3} {l:List (List UInt64)} {hs:List Sl3} (h:Reads A tyU (Sl3.v g) x) (hr:RowsR (starX As) l hs):RowsR (starX (A::As)) (x::l) (g::hs) :=
  ⟨by simp [hr.1],fun i hi=>by
    cases i with
    | zero=>exact Reads.hd h
    | succ i=>exact Reads.tl (hr.2 i (by simpa using hi))⟩
theorem RowsR.rs {l:List (List UInt64)} {hs:List Sl3} (hl:hs.length=l.length):RowsR (Rs RowP l hs) l hs :=
  ⟨hl,fun _ hi=>Reads.of_ent (zvr hi) Reads.rowP⟩
theorem zv8 {α:Type} {t:Ty α} {A:HP} {v:Value} {xs:List α} {H R:List HP} (hr:Reads A t v xs) (hd:Del H A R):∀ h,stars H h → ∃ x:Sl3,v=Sl3.v x := by
  intro h hh
  obtain ⟨h1,h2,_,_,hA,_⟩ := zbd hd.out h hh
  rcases hr h1 hA with ⟨e,_⟩ | ⟨a,c,e,_⟩
  · exact ⟨⟨none,0,0⟩,e⟩
  · exact ⟨⟨some a,_,c⟩,e⟩
def newB (zs:List Int):Bool := Nat.ble zs.length 8 && zs.all (fun z=>decide (1≤z) && decide (z≤65536))
theorem newB_iff {zs:List Int} : newB zs=true↔NewOk zs := by
  unfold newB NewOk
  rw [Bool.and_eq_true,Nat.ble_eq,List.all_eq_true]
  refine and_congr Iff.rfl ⟨fun h k hk => ?_,fun h z hz => ?_⟩
  · have h1 := h zs[k] (List.getElem_mem hk)
    have:zs.getD k 0=zs[k] := by simp [List.getD,hk]
    rw [this]; simpa using h1
  · obtain ⟨k,hk,rfl⟩ := List.getElem_of_mem hz
    have h1 := h k hk
    have:zs.getD k 0=zs[k] := by simp [List.getD,hk]
    rw [this] at h1; simpa using h1
def newO (zs:List Int):Option ArrS := if newB zs then some (newS zs) else none
def newC (zs:List Int):Int := if newB zs then 0 else if Nat.blt 8 zs.length then 4 else 1
theorem c_NewO {W:World} {A:HP} {v:Value} {zs:List Int} (hA:Reads A tyI v zs) (hl:zs.length≤1000000000) :
    CSpec Tryz.prog W 9 [v] [A] (fun b:Nat => .tuple #[oval (newO zs) b,.int .i64 (newC zs)]) (fun _=>True) (fun b F=>optP (Arr b) (newO zs)::A::F) := by
  intro F w hs
  by_cases h:newB zs=true
  · have h2 := newB_iff.1 h
    unfold newO newC; rw [if_pos h,if_pos h]
    exact c_New hA h2 F w hs
  · have h2:¬ NewOk zs := fun e=>h (newB_iff.2 e)
    unfold newO newC; rw [if_neg h,if_neg h]
    refine (zx1 hA h2 (by omega) F w hs).mono fun e w' ⟨x,hx,hp,hs'⟩=>⟨0,?_,trivial,hs'.imp (fun g hg=>zgw g hg)⟩
    rw [hx]
    by_cases h3:8 < zs.length
    · rw [if_pos h3,if_pos (by simpa [Nat.blt_eq] using h3)]; rfl
    · rw [if_neg h3,if_neg (by simpa [Nat.blt_eq] using h3)]; rfl
end Go.Proofs
set_option linter.unusedSimpArgs false
set_option linter.unusedVariables false
set_option maxRecDepth 20000
set_option maxHeartbeats 4000000
namespace Go.Proofs
open Go.VG
def zh8 (x_0_a:ArrS) (x_0_d:Int) (x_0_start:Int) (x_0_length:Int):Option (Int) :=
  some x_0_length
theorem zor {W:World} {bx_0:Nat} {bx_0_a:Nat} {x_0_a:ArrS} {x_0_d:Int} {x_0_start:Int} {x_0_length:Int} {r:Int} (h:zh8 x_0_a x_0_d x_0_start x_0_length=some r) :
    CSpec Tryz.prog W 295 [ptr bx_0 0] [blkR bx_0 124 [ptr bx_0_a 0,.int .i64 x_0_d,.int .i64 x_0_start,.int .i64 x_0_length],Arr bx_0_a x_0_a] (fun x:Unit => .int .i64 r) (fun _=>True) (fun x F=>blkR bx_0 124 [ptr bx_0_a 0,.int .i64 x_0_d,.int .i64 x_0_start,.int .i64 x_0_length]::Arr bx_0_a x_0_a::F) := by
 refine CSpec.of_body Tryz.func295 rfl Tryz.ntmps295 rfl fun F => ?_
 show CJ _ _ _ _ _ _ (_::_::F)
 unfold zh8 at h
 refine sR<|oA rfl<|nT<|sR<|oM rfl<|oP (zad rfl)<|oP (zaa rfl ⟨_,_,_,Tryz.runUnderlying124,rfl,rfl,Tryz.sizeOf3,rfl⟩)<|oV (zer rfl foc0 rfl Tryz.isAgg3)<|oA rfl<|nT<|zaf ?_
 cases h
 exact fE (res1 Tryz.results295 rfl) () r_
def zdf (size:Int) (at_1:Int) (n_2:Int):Option (Bool) :=
  some (((((decide ((0:Int)≤at_1)) && (decide (at_1≤size))) && (decide ((0:Int)≤n_2))) && (decide (n_2≤(IntKind.i64.wrap (size - at_1))))))
theorem zct {W:World} {size:Int} {at_1:Int} {n_2:Int} {r:Bool} (h:zdf size at_1 n_2=some r) :
    CSpec Tryz.prog W 50 [.int .i64 size,.int .i64 at_1,.int .i64 n_2] [] (fun x:Unit => .bool r) (fun _=>True) (fun x F=>F) := by
 refine CSpec.of_body Tryz.func50 rfl Tryz.ntmps50 rfl fun F => ?_
 show CJ _ _ _ _ _ _ (F)
 unfold zdf at h
 refine sR<|oA rfl<|nT<|sR<|oM rfl<|oP (P_geq (a:=at_1) (b:=(0:Int)) rfl rfl)<|oM rfl<|zb2 rfl rfl rfl (fun hG1=>have hP2:((0:Int)≤at_1) := (zaq).1 hG1; VJ_P (zae rfl))<|zb2 rfl rfl rfl (fun hG3=>have hP4:((0:Int)≤at_1) := (zaq).1 hG3; VJ_P (zae rfl))<|zb2 rfl rfl rfl (fun hG5=>have hP6:((0:Int)≤at_1) := (zaq).1 hG5; VJ_P (P_leq (a:=at_1) (b:=size) (mbx hG5 rfl) (mbx hG5 rfl)))<|oP (zci rfl (fun hh=>mbx hh rfl) rfl)<|oM rfl<|zb2 rfl rfl rfl (fun hG7=>have hP8:(((0:Int)≤at_1)∧(at_1≤size)) := ((zbf zaq zaq)).1 hG7; VJ_P (zae rfl))<|zb2 rfl rfl rfl (fun hG9=>have hP10:(((0:Int)≤at_1)∧(at_1≤size)) := ((zbf zaq zaq)).1 hG9; VJ_P (P_geq (a:=n_2) (b:=(0:Int)) (mbx hG9 rfl) rfl))<|oP (zci rfl (fun hh=>mbx hh rfl) rfl)<|oM rfl<|zb2 rfl rfl rfl (fun hG11=>have hP12:((((0:Int)≤at_1)∧(at_1≤size))∧((0:Int)≤n_2)) := ((zbf (zbf zaq zaq) zaq)).1 hG11; VJ_P (zae rfl))<|zb2 rfl rfl rfl (fun hG13=>have hP14:((((0:Int)≤at_1)∧(at_1≤size))∧((0:Int)≤n_2)) := ((zbf (zbf zaq zaq) zaq)).1 hG13; VJ_P (zae rfl))<|zb2 rfl rfl rfl (fun hG15=>have hP16:((((0:Int)≤at_1)∧(at_1≤size))∧((0:Int)≤n_2)) := ((zbf (zbf zaq zaq) zaq)).1 hG15; VJ_P (zae rfl)) ?_
 refine zb2 rfl rfl rfl (fun hG17=>have hP18:((((0:Int)≤at_1)∧(at_1≤size))∧((0:Int)≤n_2)) := ((zbf (zbf zaq zaq) zaq)).1 hG17; VJ_P (zvl (a:=size) (b:=at_1) (mbx hG17 rfl) (mbx hG17 rfl)))<|zb2 rfl rfl rfl (fun hG19=>have hP20:((((0:Int)≤at_1)∧(at_1≤size))∧((0:Int)≤n_2)) := ((zbf (zbf zaq zaq) zaq)).1 hG19; VJ_P (P_leq (a:=n_2) (b:=(IntKind.i64.wrap (size - at_1))) (mbx hG19 rfl) (mbx hG19 rfl)))<|oP (zci rfl (fun hh=>mbx hh rfl) rfl)<|oA rfl<|nT<|zaf ?_
 cases h
 exact fE (res1 Tryz.results50 rfl) () r_
def zfd (x_0_a:ArrS) (x_0_d:Int) (x_0_start:Int) (x_0_length:Int) (at_1:Int):Option (UInt64 × Int) :=
  Option.bind (zdf x_0_length at_1 (1:Int)) fun r1 =>
  if (¬ r1=true) then
    some (((0:UInt64),(1:Int)))
  else
    grd (inI64 (x_0_start + at_1)) <|
    some (((rdV x_0_a x_0_d (x_0_start + at_1)),(rdC x_0_a x_0_d (x_0_start + at_1))))
theorem zos {W:World} {bx_0:Nat} {bx_0_a:Nat} {x_0_a:ArrS} {x_0_d:Int} {x_0_start:Int} {x_0_length:Int} {at_1:Int} {r:UInt64 × Int} (h:zfd x_0_a x_0_d x_0_start x_0_length at_1=some r) :
    CSpec Tryz.prog W 294 [ptr bx_0 0,.int .i64 at_1] [blkR bx_0 124 [ptr bx_0_a 0,.int .i64 x_0_d,.int .i64 x_0_start,.int .i64 x_0_length],Arr bx_0_a x_0_a] (fun x:Unit => .tuple #[.int .u64 (r.1.toNat:Int),.int .i64 r.2]) (fun _=>True) (fun x F=>blkR bx_0 124 [ptr bx_0_a 0,.int .i64 x_0_d,.int .i64 x_0_start,.int .i64 x_0_length]::Arr bx_0_a x_0_a::F) := by
 refine CSpec.of_body Tryz.func294 rfl Tryz.ntmps294 rfl fun F => ?_
 show CJ _ _ _ _ _ _ (_::_::F)
 unfold zfd at h
 refine sR<|oA rfl<|oA rfl<|nT<|zab<|sR<|oM rfl<|oP (zad rfl)<|oP (zaa rfl ⟨_,_,_,Tryz.runUnderlying124,rfl,rfl,Tryz.sizeOf3,rfl⟩)<|oV (zer rfl foc0 rfl Tryz.isAgg3)<|oM rfl ?_
 obtain ⟨r1,hr2,h⟩ := zb9 h
 refine oO<|zai (zct hr2) rfl Tryz.call50 Dels.nil rfl fun _ _=>oP (P_not rfl)<|nT<|zbt rfl (zh1 Iff.rfl) (fun hg1 => ?_) (fun hg1 => ?_)
 ·
  replace h := ite_t hg1 h
  refine sR<|oA rfl<|oA rfl<|nT<|zaf<|zak ?_
  cases h
  exact fE (res2 Tryz.results294 rfl rfl) () r_
 ·
  replace h := ite_f hg1 h
  refine kT<|zab<|za3 16384 kR_ rfl<|aN 0 1 rfl rfl (zae rfl)<|aN 1 3 rfl rfl (zad rfl)<|aN 2 7 rfl rfl (zaa rfl ⟨_,_,_,Tryz.runUnderlying124,rfl,rfl,Tryz.sizeOf33,rfl⟩)<|aW 3 15 rfl rfl r_ (zer rfl foc0 rfl Tryz.isAgg33)<|aN 4 31 rfl rfl (zae rfl)<|aN 5 63 rfl rfl (zad rfl)<|aN 6 127 rfl rfl (zaa rfl ⟨_,_,_,Tryz.runUnderlying124,rfl,rfl,Tryz.sizeOf3,rfl⟩)<|aW 7 255 rfl rfl r_ (zer rfl foc0 rfl Tryz.isAgg3)<|aN 8 511 rfl rfl (zae rfl)<|aN 9 1023 rfl rfl (zad rfl)<|aN 10 2047 rfl rfl (zaa rfl ⟨_,_,_,Tryz.runUnderlying124,rfl,rfl,Tryz.sizeOf3,rfl⟩)<|aW 11 4095 rfl rfl r_ (zer rfl foc0 rfl Tryz.isAgg3)<|aN 12 8191 rfl rfl (zae rfl) ?_
  obtain ⟨hg2,h⟩ := zcm h
  refine aN 13 16383 rfl rfl (P_add (a:=x_0_start) (b:=at_1) rfl rfl hg2)<|AJ_op 14 32767 rfl kR_ rfl (zal rfl)<|zai (c_Read) rfl Tryz.call247 (dC_ del1) rfl fun _ _=>⟨fun h=>absurd h (by decide),?_⟩
  refine aN 15 65535 rfl rfl (zaj rfl rfl)<|aN 16 131071 rfl rfl (zaj rfl rfl)<|aN 17 262143 rfl rfl (za9 rfl)<|aN 18 524287 rfl rfl (za9 rfl)<|aD<|zaf ?_
  cases h
  exact fE (res2 Tryz.results294 rfl rfl) () (t1_ r_)
def zes (x_0_a:ArrS) (x_0_d:Int) (x_0_start:Int) (x_0_length:Int) (at_1:Int) (v:UInt64):Option (Int × ArrS) :=
  Option.bind (zdf x_0_length at_1 (1:Int)) fun r1 =>
  if (¬ r1=true) then
    some (((1:Int),x_0_a))
  else
    grd (inI64 (x_0_start + at_1)) <|
    grd (inLen x_0_a.writes) <|
    some (((wrR x_0_a x_0_d (x_0_start + at_1)),(wrS x_0_a x_0_d (x_0_start + at_1) v)))
theorem znz {W:World} {bx_0:Nat} {bx_0_a:Nat} {x_0_a:ArrS} {x_0_d:Int} {x_0_start:Int} {x_0_length:Int} {at_1:Int} {v:UInt64} {r:Int × ArrS} (h:zes x_0_a x_0_d x_0_start x_0_length at_1 v=some r) :
    CSpec Tryz.prog W 296 [ptr bx_0 0,.int .i64 at_1,.int .u64 (v.toNat:Int)] [blkR bx_0 124 [ptr bx_0_a 0,.int .i64 x_0_d,.int .i64 x_0_start,.int .i64 x_0_length],Arr bx_0_a x_0_a] (fun x:Unit => .int .i64 r.1) (fun _=>True) (fun x F=>blkR bx_0 124 [ptr bx_0_a 0,.int .i64 x_0_d,.int .i64 x_0_start,.int .i64 x_0_length]::Arr bx_0_a r.2::F) := by
 refine CSpec.of_body Tryz.func296 rfl Tryz.ntmps296 rfl fun F => ?_
 show CJ _ _ _ _ _ _ (_::_::F)
 unfold zes at h
 refine sR<|oA rfl<|nT<|zab<|sR<|oM rfl<|oP (zad rfl)<|oP (zaa rfl ⟨_,_,_,Tryz.runUnderlying124,rfl,rfl,Tryz.sizeOf3,rfl⟩)<|oV (zer rfl foc0 rfl Tryz.isAgg3)<|oM rfl ?_
 obtain ⟨r1,hr2,h⟩ := zb9 h
 refine oO<|zai (zct hr2) rfl Tryz.call50 Dels.nil rfl fun _ _=>oP (P_not rfl)<|nT<|zbt rfl (zh1 Iff.rfl) (fun hg1 => ?_) (fun hg1 => ?_)
 ·
  replace h := ite_t hg1 h
  refine sR<|oA rfl<|nT<|zaf<|zak ?_
  cases h
  exact fE (res1 Tryz.results296 rfl) () r_
 ·
  replace h := ite_f hg1 h
  refine kT<|zab<|za3 32768 kR_ rfl<|aN 0 1 rfl rfl (zae rfl)<|aN 1 3 rfl rfl (zad rfl)<|aN 2 7 rfl rfl (zaa rfl ⟨_,_,_,Tryz.runUnderlying124,rfl,rfl,Tryz.sizeOf33,rfl⟩)<|aW 3 15 rfl rfl r_ (zer rfl foc0 rfl Tryz.isAgg33)<|aN 4 31 rfl rfl (zae rfl)<|aN 5 63 rfl rfl (zad rfl)<|aN 6 127 rfl rfl (zaa rfl ⟨_,_,_,Tryz.runUnderlying124,rfl,rfl,Tryz.sizeOf3,rfl⟩)<|aW 7 255 rfl rfl r_ (zer rfl foc0 rfl Tryz.isAgg3)<|aN 8 511 rfl rfl (zae rfl)<|aN 9 1023 rfl rfl (zad rfl)<|aN 10 2047 rfl rfl (zaa rfl ⟨_,_,_,Tryz.runUnderlying124,rfl,rfl,Tryz.sizeOf3,rfl⟩)<|aW 11 4095 rfl rfl r_ (zer rfl foc0 rfl Tryz.isAgg3)<|aN 12 8191 rfl rfl (zae rfl) ?_
  obtain ⟨hg2,h⟩ := zcm h
  refine aN 13 16383 rfl rfl (P_add (a:=x_0_start) (b:=at_1) rfl rfl hg2)<|aN 14 32767 rfl rfl (zae rfl) ?_
  obtain ⟨hg3,h⟩ := zgg h
  refine AJ_op 15 65535 rfl kR_ rfl (zal rfl)<|zai (z0n hg3 (v:=v)) rfl Tryz.call248 (dC_ del1) rfl fun _ _=>⟨fun h=>absurd h (by decide),?_⟩
  refine aN 16 131071 rfl rfl (za9 rfl)<|aD<|zaf ?_
  cases h
  exact fE (res1 Tryz.results296 rfl) () (t1_ r_)
def zet (x_0_a:ArrS) (x_0_d:Int) (x_0_start:Int) (x_0_length:Int):Option (Int × ArrS) :=
  grd (inLen x_0_a.writes) <|
  some (((flC x_0_a x_0_d),(flS x_0_a x_0_d)))
theorem zn0 {W:World} {bx_0:Nat} {bx_0_a:Nat} {x_0_a:ArrS} {x_0_d:Int} {x_0_start:Int} {x_0_length:Int} {r:Int × ArrS} (h:zet x_0_a x_0_d x_0_start x_0_length=some r) :
    CSpec Tryz.prog W 293 [ptr bx_0 0] [blkR bx_0 124 [ptr bx_0_a 0,.int .i64 x_0_d,.int .i64 x_0_start,.int .i64 x_0_length],Arr bx_0_a x_0_a] (fun x:Unit => .int .i64 r.1) (fun _=>True) (fun x F=>blkR bx_0 124 [ptr bx_0_a 0,.int .i64 x_0_d,.int .i64 x_0_start,.int .i64 x_0_length]::Arr bx_0_a r.2::F) := by
 refine CSpec.of_body Tryz.func293 rfl Tryz.ntmps293 rfl fun F => ?_
 show CJ _ _ _ _ _ _ (_::_::F)
 unfold zet at h
 refine sR<|oA rfl<|nT<|zab<|za3 256 kR_ rfl<|aN 0 1 rfl rfl (zae rfl)<|aN 1 3 rfl rfl (zad rfl)<|aN 2 7 rfl rfl (zaa rfl ⟨_,_,_,Tryz.runUnderlying124,rfl,rfl,Tryz.sizeOf33,rfl⟩)<|aW 3 15 rfl rfl r_ (zer rfl foc0 rfl Tryz.isAgg33)<|aN 4 31 rfl rfl (zae rfl)<|aN 5 63 rfl rfl (zad rfl)<|aN 6 127 rfl rfl (zaa rfl ⟨_,_,_,Tryz.runUnderlying124,rfl,rfl,Tryz.sizeOf3,rfl⟩)<|aW 7 255 rfl rfl r_ (zer rfl foc0 rfl Tryz.isAgg3) ?_
 obtain ⟨hg1,h⟩ := zgg h
 refine AJ_op 8 511 rfl kR_ rfl (zal rfl)<|zai (zx2 hg1) rfl Tryz.call246 (dC_ del1) rfl fun _ _=>⟨fun h=>absurd h (by decide),?_⟩
 refine aN 9 1023 rfl rfl (za9 rfl)<|aD<|zaf ?_
 cases h
 exact fE (res1 Tryz.results293 rfl) () (t1_ r_)
def Dvc.span (x_d:Int) (x_start:Int) (x_length:Int):Dvc := { dep := 1,size := fun s=>zh8 s x_d x_start x_length,rd := fun s k=>zfd s x_d x_start x_length k,wr := fun s k v=>zes s x_d x_start x_length k v,fl := fun s=>zet s x_d x_start x_length }
theorem ztn {a:Nat} {bx:Nat} {x_d:Int} {x_start:Int} {x_length:Int} : DevOk a (Dvc.span x_d x_start x_length) ⟨122,ptr bx 0⟩ (starX [blkR bx 124 [ptr a 0,.int .i64 x_d,.int .i64 x_start,.int .i64 x_length]]) where
  dup := Dup.starX (by intro A hA; simp only [List.mem_cons,List.not_mem_nil,or_false] at hA; subst hA; exact Dup.blkR)
  dep := by simp [Dvc.span]
  nil := fun n hn w=>by
    obtain ⟨m,rfl⟩:∃ m,n=m + 1 := ⟨n - 1,by omega⟩
    kernel_rfl
  size := fun {W s r} e=>IOk.conseq (G:=[]) (IOk.of (fun n w=>by kernel_rfl) Tryz.call295 (zor e)) (fun F=>Ent.starE (Ent.take del0 (Ent.take del0 Ent.refl))) (fun _ F=>Ent.starI (Ent.take del0 (Ent.take del0 Ent.refl)))
  rd := fun {W s k r} e=>IOk.conseq (G:=[]) (IOk.of (fun n w=>by kernel_rfl) Tryz.call294 (zos e)) (fun F=>Ent.starE (Ent.take del0 (Ent.take del0 Ent.refl))) (fun _ F=>Ent.starI (Ent.take del0 (Ent.take del0 Ent.refl)))
  wr := fun {W s k v r} e=>IOk.conseq (G:=[]) (IOk.of (fun n w=>by kernel_rfl) Tryz.call296 (znz e)) (fun F=>Ent.starE (Ent.take del0 (Ent.take del0 Ent.refl))) (fun _ F=>Ent.starI (Ent.take del0 (Ent.take del0 Ent.refl)))
  fl := fun {W s r} e=>IOk.conseq (G:=[]) (IOk.of (fun n w=>by kernel_rfl) Tryz.call293 (zn0 e)) (fun F=>Ent.starE (Ent.take del0 (Ent.take del0 Ent.refl))) (fun _ F=>Ent.starI (Ent.take del0 (Ent.take del0 Ent.refl)))
end Go.Proofs
set_option linter.unusedSimpArgs false
set_option linter.unusedVariables false
set_option maxRecDepth 20000
set_option maxHeartbeats 4000000
namespace Go.Proofs
open Go.VG
theorem zv9 (v0:Int):zbg Tryz.prog 22 1 [(0,.int .i64 v0)] 3 [.int .i64 v0] := fun w=>by kernel_rfl
theorem zot (v0:(Option Addr)) (v1:Int) (v2:Int) (v3:Int):∀ w,(Instr.build 124 (#[(0,.pointer v0),(1,.int .i64 v1),(2,.int .i64 v2),(3,.int .i64 v3)]:Array (Nat × Value))).run Tryz.prog w = .ok (.agg #[.pointer v0,.int .i64 v1,.int .i64 v2,.int .i64 v3]) w := fun w=>by kernel_rfl
theorem zwa (v0:TypeId) (v1:Value):zbg Tryz.prog 52 1 [(0,.iface v0 v1)] 38 [.iface v0 v1] := fun w=>by kernel_rfl
def zcp (l:List (List UInt64)) (rec:(List Int)→Nat→Option ((List Int))) (x9:List Int) (x11:Nat):Option ((List Int)) :=
  if (((x11:Nat):Int) < ((l.length:Nat):Int)) then
    grd (inLen (x9.length + 1)) <|
    grd (inN64 (x11 + 1)) <|
    rec ((x9 ++ [(((l.getD x11 []).length:Nat):Int)])) (x11 + 1)
  else
    some x9
def zcv (l:List (List UInt64)):Nat→(List Int)→Nat→Option ((List Int))
  | 0,_,_=>none
  | n + 1,x9,x11=>zcp l (zcv l n) x9 x11
def zcq (l:List (List UInt64)) (rec:ArrS→Nat→Option ((ArrS) ⊕ (Option ArrS))) (x32:ArrS) (x33:Nat):Option ((ArrS) ⊕ (Option ArrS)) :=
  if (((x33:Nat):Int) < ((l.length:Nat):Int)) then
    grd (inLen x32.writes) <|
    if ((ldC x32 (((x33:Nat):Int)) (l.getD x33 []))≠(0:Int)) then
      some (.inr none)
    else
      grd (inN64 (x33 + 1)) <|
      rec ((ldS x32 (((x33:Nat):Int)) (l.getD x33 []))) (x33 + 1)
  else
    some (.inl x32)
def zcw (l:List (List UInt64)):Nat→ArrS→Nat→Option ((ArrS) ⊕ (Option ArrS))
  | 0,_,_=>none
  | n + 1,x32,x33=>zcq l (zcw l n) x32 x33
def zda (l:List (List UInt64)):Option ((Option ArrS)) :=
  Option.bind (zcv l FUEL ([]) 0) fun a8 =>
  grd (inLen a8.length) <|
  if ((newC a8)≠(0:Int)) then
    some none
  else
    Option.elim (newO a8) (
      some none) fun o26 =>
    seqO (zcw l FUEL o26 0) fun a31 =>
    some (some a31)
theorem zit {W:World} {Al:HP} {vl:Value} {hsl:List Sl3} {Bl:HP} {l:List (List UInt64)} {r:(Option ArrS)} (rl:Reads Al tyRow vl hsl) (ql:RowsR Bl l hsl) (h:zda l=some r) :
    CSpec Tryz.prog W 13 [vl] [Al,Bl] (fun x:Nat=>oval r x) (fun _=>True) (fun x F=>Al::Bl::optP (Arr x) r::F) := by
 refine CSpec.of_body Tryz.func13 rfl Tryz.ntmps13 rfl fun F => ?_
 show CJ _ _ _ _ _ _ (_::_::F)
 unfold zda at h
 refine zdy (zh4 rl del0) fun hlen1=>sR<|oA rfl<|nT<|sR<|oA rfl<|nT<|zab<|sR<|oA rfl<|nT<|zbs (fun h hh=>zch (t:=tyI) h hh) ?_
 obtain ⟨y5,hl3,hK4⟩ := zh5 h
 refine zdg (X:=(List Int) × Sl3) [3,4,8,9,10,11,12,13,14,15,16,17,18,19,20,21] (fun ⟨a8,hd7⟩=>([(3,hd7.v)]:Slots)) (fun ⟨a8,hd7⟩ R=>sl tyI hd7.v a8::R) (fun ⟨a8,hd7⟩=>y5=a8) (dC_ del0) ?_ ?_
 ·
  refine zao<|za8 (X:=Nat × (List Int) × Nat × Sl3) [3,4,8,9,10,11,12,13,14,15,16,17,18,19,20,21] (fun ⟨n,x9,x11,hd10⟩=>([(3,hd10.v),(4,.int .i64 (((x11:Nat):Int)))]:Slots)) (fun ⟨n,x9,x11,hd10⟩ R=>sl tyI hd10.v x9::R) (fun ⟨n,x9,x11,hd10⟩=>zcv l n x9 x11=some y5) (fun ⟨n,x9,x11,hd10⟩=>n) ⟨FUEL,[],0,⟨none,0,0⟩⟩ ?_ ?_ r_ ?_
  · exact hl3
  · exact ⟨rfl,rfl,True.intro⟩
  ·
   rintro ⟨n,x9,x11,hd10⟩ h
   cases n with
   | zero=>exact zdr h
   | succ n => ?_
   replace h:zcp l (zcv l n) x9 x11=some y5 := h
   unfold zcp at h
   show CJ _ _ _ _ _ (([(3,hd10.v),(4,.int .i64 (((x11:Nat):Int)))]:Slots) ++ forget _ _) (sl tyI hd10.v x9::_)
   refine lC del0 fun hlen12=>zab<|sR<|oM rfl<|oM rfl<|oV (VJ_eq (V_len rfl foc1 rl Tryz.runUnderlying48) (congrArg (fun z:Nat=>Value.int .i64 (z:Int)) (ql.1).symm))<|oP (P_lss (a:=((x11:Nat):Int)) (b:=((l.length:Nat):Int)) rfl rfl)<|nT<|zbt rfl zaq (fun hg1 => ?_) (fun hg1 => ?_)
   ·
    replace h := ite_t hg1 h
    refine kT<|zab<|zao<|zag<|oM rfl<|oM rfl<|oM rfl<|oV (zam (i:=x11) rfl rfl rfl (by have hz:x11 < l.length := (by omega); have hy := ql.1; omega) foc1 rl Tryz.runUnderlying48 Tryz.sizeOf44)<|oV (za6 rfl rfl (by have hz:x11 < l.length := (by omega); have hy := ql.1; omega) foc1 rl rfl rfl Tryz.isAgg44)<|oV (V_len rfl foc2 (ql.2 _ (by omega)) Tryz.runUnderlying44)<|oO<|za4 rfl (zv9 _) rfl fun b13 => ?_
    obtain ⟨hg2,h⟩ := zgg h
    refine oO<|zb1 (t:=tyI) (bytes:=8) rfl rfl del1 foc0 (Reads.lit (t:=tyI) (ys:=[(((l.getD x11 []).length:Nat):Int)]) rfl rfl (by decide) (by decide) rfl) Tryz.underlying22 zr1 (apl (m:=1) (b:=8) hg2 (by decide)).1 (apl (m:=1) (b:=8) hg2 (by decide)).2 rfl fun p15 c16=>oA rfl<|za0<|zah<|zar<|zag<|oM rfl ?_
    obtain ⟨hg3,h⟩ := zg5 h
    exact oP (PJ_eq (P_add (a:=((x11:Nat):Int)) (b:=(1:Int)) rfl rfl (zg6 hg3)) rfl)<|oA rfl<|za0<|nR ⟨n,(x9 ++ [(((l.getD x11 []).length:Nat):Int)]),(x11 + 1),⟨p15,(x9 ++ [(((l.getD x11 []).length:Nat):Int)]).length,c16⟩⟩ h ⟨rfl,rfl,True.intro⟩ (t0_ (t1_ (t1_ (e_ r_))))
   ·
    replace h := ite_f hg1 h
    exact zbc<|zay<|zau<|zat<|cR ⟨x9,hd10⟩ (Option.some.inj h).symm ⟨rfl,True.intro⟩ r_
 ·
  rintro ⟨a8,hd7⟩ hy17
  replace h := zgj hK4 hy17
  show CJ _ _ _ _ _ (([(3,hd7.v)]:Slots) ++ forget _ _) (sl tyI hd7.v a8::_)
  refine lC del0 fun hlen18=>sR<|oM rfl ?_
  obtain ⟨hg4,h⟩ := zgg h
  refine oO<|zai (c_NewO (Reads.sl _ _ _) hg4) rfl Tryz.call9 (dC_ del0) rfl fun X19 _=>oM rfl<|oP (zaj rfl rfl)<|oP (zaj rfl rfl)<|oA rfl<|oA rfl<|nT<|zab<|sR<|oM rfl<|oP (P_neq (a:=(newC a8)) (b:=(0:Int)) rfl rfl)<|oM rfl<|zb7 rfl rfl rfl (fun hG21=>have hP22:¬ ((newC a8)≠(0:Int)) := nP (zaq) hG21; VJ_P (zae rfl))<|zeb 29 rfl zaq (fun hg5B hg5 => ?_) (fun hg5B hg5 => ?_)
  ·
   replace h := ite_t hg5 h
   refine g_ rfl rfl rfl hg5B rfl<|oP (zbe rfl hg5B rfl)<|nT<|za7 rfl rfl<|sR<|oA rfl<|nT<|zaf<|zak ?_
   cases h
   exact fE (res1 Tryz.results13 rfl) 0 (t2_ (t2_ (Ent.trans (fun h hh=>zgw h hh)<|t0_ (e_ (e_ r_)))))
  ·
   replace h := ite_f hg5 h
   rcases opt_e h with ⟨ht25,h⟩ | ⟨o26,ht25,h⟩
   ·
    rw [ht25]
    refine zcg (t1_ (t1_ (t1_ (e_ r_))))<|p_ rfl rfl rfl hg5B (zpp (mbx (not_f hg5B) rfl) rfl Tryz.underlying33)<|oP (za2 rfl hg5B rfl)<|nT<|za7 rfl rfl<|sR<|oA rfl<|nT<|zaf<|zak ?_
    cases h
    exact fE (res1 Tryz.results13 rfl) 0 (t1_ (t1_ (Ent.trans (fun h hh=>zgw h hh)<|t0_ (e_ r_))))
   ·
    rw [ht25]
    refine zcg (Ent.takeC (A' := Arr X19 o26) del0 rfl r_)<|p_ rfl rfl rfl hg5B (zhm (mbx (not_f hg5B) rfl) rfl Tryz.underlying33)<|oP (za2 rfl hg5B rfl)<|nT<|zap rfl rfl<|kT<|zab<|sR<|oA rfl<|nT ?_
    obtain ⟨y29,hl27,hK28⟩ := seq_e h
    refine zdg (X:=ArrS) [2,7,33,34,35,36,37,38,39,40,41,42,43,44,45,46] (fun a31=>([]:Slots)) (fun a31 R=>Arr X19 a31::R) (fun a31=>y29 = .inl a31) (dC_ del0) ?_ ?_
    ·
     refine zao<|za8 (X:=Nat × ArrS × Nat) [2,7,33,34,35,36,37,38,39,40,41,42,43,44,45,46] (fun ⟨n,x32,x33⟩=>([(7,.int .i64 (((x33:Nat):Int)))]:Slots)) (fun ⟨n,x32,x33⟩ R=>Arr X19 x32::R) (fun ⟨n,x32,x33⟩=>zcw l n x32 x33=some y29) (fun ⟨n,x32,x33⟩=>n) ⟨FUEL,o26,0⟩ ?_ ?_ r_ ?_
     · exact hl27
     · exact ⟨rfl,True.intro⟩
     ·
      rintro ⟨n,x32,x33⟩ h
      cases n with
      | zero=>exact zdr h
      | succ n => ?_
      replace h:zcq l (zcw l n) x32 x33=some y29 := h
      unfold zcq at h
      show CJ _ _ _ _ _ (([(7,.int .i64 (((x33:Nat):Int)))]:Slots) ++ forget _ _) (Arr X19 x32::_)
      refine zab<|sR<|oM rfl<|oM rfl<|oV (VJ_eq (V_len rfl foc2 rl Tryz.runUnderlying48) (congrArg (fun z:Nat=>Value.int .i64 (z:Int)) (ql.1).symm))<|oP (P_lss (a:=((x33:Nat):Int)) (b:=((l.length:Nat):Int)) rfl rfl)<|nT<|zbt rfl zaq (fun hg6 => ?_) (fun hg6 => ?_)
      ·
       replace h := ite_t hg6 h
       refine kT<|zab<|zao<|sR<|oM rfl<|oM rfl<|oM rfl<|oM rfl<|oV (zam (i:=x33) rfl rfl rfl (by have hz:x33 < l.length := (by omega); have hy := ql.1; omega) foc2 rl Tryz.runUnderlying48 Tryz.sizeOf44)<|oV (za6 rfl rfl (by have hz:x33 < l.length := (by omega); have hy := ql.1; omega) foc2 rl rfl rfl Tryz.isAgg44) ?_
       obtain ⟨hg7,h⟩ := zgg h
       refine oO<|zai (z0q (ql.2 _ (by omega)) hg7) rfl Tryz.call32 (Dels.cons del0 (dC_ del2)) rfl fun _ _=>oP (P_neq (a:=(ldC x32 (((x33:Nat):Int)) (l.getD x33 []))) (b:=(0:Int)) rfl rfl)<|nT<|zbt rfl zaq (fun hg8 => ?_) (fun hg8 => ?_)
       ·
        replace h := ite_t hg8 h
        refine sR<|oA rfl<|nT<|zaf<|zax<|zak<|zbm<|zax<|zak ?_
        have hE := Option.some.inj h
        replace hE := zf2 hK28 hE.symm
        subst hE
        exact fE (res1 Tryz.results13 rfl) 0 (t3_ (t1_ (Ent.trans (fun h hh=>zgw h hh)<|t0_ (e_ (e_ r_)))))
       ·
        replace h := ite_f hg8 h
        refine zbh<|zah<|zar<|zag<|oM rfl ?_
        obtain ⟨hg9,h⟩ := zg5 h
        exact oP (PJ_eq (P_add (a:=((x33:Nat):Int)) (b:=(1:Int)) rfl rfl (zg6 hg9)) rfl)<|oA rfl<|za0<|nR ⟨n,(ldS x32 (((x33:Nat):Int)) (l.getD x33 [])),(x33 + 1)⟩ h ⟨rfl,True.intro⟩ (t0_ (t1_ (t1_ r_)))
      ·
       replace h := ite_f hg6 h
       exact zbc<|zay<|zau<|zat<|cR x32 (Option.some.inj h).symm True.intro r_
    ·
     rintro a31 hy34
     replace h := zgs hK28 hy34
     show CJ _ _ _ _ _ (([]:Slots) ++ forget _ _) (Arr X19 a31::_)
     refine sR<|oM rfl<|oA rfl<|nT<|zaf ?_
     cases h
     exact fE (res1 Tryz.results13 rfl) X19 (t2_ (t2_ (t0_ (e_ r_))))
def zg7 (a:ArrS) (d:Int) (start:Int) (length:Int):Option ((Option Dvc) × Int) :=
  if (length < (1:Int)) then
    some ((none,(1:Int)))
  else
    Option.bind (zdf (sizeI a d) start length) fun r1 =>
    if (¬ r1=true) then
      some ((none,(1:Int)))
    else
      some (((some (Dvc.span d start length)),(0:Int)))
theorem zl6 {W:World} {ba:Nat} {a:ArrS} {d:Int} {start:Int} {length:Int} {r:(Option Dvc) × Int} (h:zg7 a d start length=some r) :
    CSpec Tryz.prog W 19 [ptr ba 0,.int .i64 d,.int .i64 start,.int .i64 length] [Arr ba a] (fun x:IfH => .tuple #[oif r.1 x,.int .i64 r.2]) (fun _=>True) (fun x F=>Arr ba a::optP (DevP ba · x) r.1::F) := by
 refine CSpec.of_body Tryz.func19 rfl Tryz.ntmps19 rfl fun F => ?_
 show CJ _ _ _ _ _ _ (_::F)
 unfold zg7 at h
 refine sR<|oA rfl<|oA rfl<|nT<|zab<|sR<|oM rfl<|oP (P_lss (a:=length) (b:=(1:Int)) rfl rfl)<|oM rfl<|zeb 12 rfl zaq (fun hg1B hg1 => ?_) (fun hg1B hg1 => ?_)
 ·
  replace h := ite_t hg1 h
  refine g_ rfl rfl rfl hg1B rfl<|g_ rfl rfl rfl hg1B rfl<|g_ rfl rfl rfl hg1B rfl<|g_ rfl rfl rfl hg1B rfl<|g_ rfl rfl rfl hg1B rfl<|g_ rfl rfl rfl hg1B rfl<|g_ rfl rfl rfl hg1B rfl<|oP (zbe rfl hg1B rfl)<|nT<|za7 rfl rfl<|sR<|oA rfl<|oA rfl<|nT<|zaf<|zak ?_
  cases h
  exact fE (res2 Tryz.results19 rfl rfl) ⟨0,.bool false⟩ (t0_ (Ent.trans (fun h hh=>zgw h hh)<|t0_ r_))
 ·
  replace h := ite_f hg1 h
  refine p_ rfl rfl rfl hg1B (zae rfl)<|p_ rfl rfl rfl hg1B (zae rfl)<|RJ_gy (zaz rfl rfl rfl hg1B)<|zai (zps) rfl Tryz.call40 (dC_ del0) rfl fun _ _=>p_ rfl rfl rfl hg1B (zae rfl)<|p_ rfl rfl rfl hg1B (zae rfl) ?_
  obtain ⟨r1,hr2,h⟩ := zb9 h
  refine RJ_gy (zaz rfl rfl rfl hg1B)<|zai (zct hr2) rfl Tryz.call50 Dels.nil rfl fun _ _=>p_ rfl rfl rfl hg1B (P_not rfl)<|oP (za2 rfl hg1B rfl)<|nT<|zbt rfl (zh1 Iff.rfl) (fun hg2 => ?_) (fun hg2 => ?_)
  ·
   replace h := ite_t hg2 h
   refine sR<|oA rfl<|oA rfl<|nT<|zaf<|zak ?_
   cases h
   exact fE (res2 Tryz.results19 rfl rfl) ⟨0,.bool false⟩ (t0_ (Ent.trans (fun h hh=>zgw h hh)<|t0_ r_))
  ·
   replace h := ite_f hg2 h
   refine kT<|sR<|oM rfl<|oM rfl<|oM rfl<|oM rfl<|oP (zbk rfl (zot _ _ _ _))<|oO<|O_box rfl rfl rfl fun b3=>zxq del0<|oP (zdu rfl Tryz.runUnderlying122 (by intro ms h; cases h))<|zcg (Ent.trans r_ (z0r (a:=ba) (x:=(Dvc.span d start length)) (h:=(⟨122,ptr b3 0⟩:IfH)) (ztn)))<|oA rfl<|oA rfl<|nT<|zaf ?_
   cases h
   exact fE (res2 Tryz.results19 rfl rfl) ((⟨122,ptr b3 0⟩:IfH)) (t1_ r_)
def zcs (a:ArrS) (rec:(List Dvc)→Nat→Option (((List Dvc)) ⊕ (List Dvc))) (x10:List Dvc) (x13:Nat):Option (((List Dvc)) ⊕ (List Dvc)) :=
  if (((x13:Nat):Int) < ((a.drv.length:Nat):Int)) then
    Option.bind (zg7 a (((x13:Nat):Int)) (0:Int) ((sizeI a (((x13:Nat):Int))))) fun r16 =>
    if (r16.2≠(0:Int)) then
      some (.inr ([]:List Dvc))
    else
      Option.elim r16.1 (
        some (.inr ([]:List Dvc))) fun o27 =>
      grd (inLen (x10.length + 1)) <|
      grd (inN64 (x13 + 1)) <|
      rec (x10 ++ [o27]) (x13 + 1)
  else
    some (.inl x10)
def zc0 (a:ArrS):Nat→(List Dvc)→Nat→Option (((List Dvc)) ⊕ (List Dvc))
  | 0,_,_=>none
  | n + 1,x10,x13=>zcs a (zc0 a n) x10 x13
def zde (a:ArrS):Option ((List Dvc)) :=
  seqO (zc0 a FUEL ([]:List Dvc) 0) fun a9 =>
  some a9
theorem zi0 {W:World} {ba:Nat} {a:ArrS} {r:(List Dvc)} (h:zde a=some r) :
    CSpec Tryz.prog W 15 [ptr ba 0] [Arr ba a] (fun x:(Sl3 × List IfH)=>x.1.v) (fun _=>True) (fun x F=>Arr ba a::sl tyDev x.1.v x.2::Rs (DevP ba) r x.2::F) := by
 refine CSpec.of_body Tryz.func15 rfl Tryz.ntmps15 rfl fun F => ?_
 show CJ _ _ _ _ _ _ (_::F)
 unfold zde at h
 refine sR<|oA rfl<|nT<|sR<|oA rfl<|nT<|zab<|sR<|oA rfl<|nT<|zbs (fun h hh=>zch (t:=tyDev) h (zry (RP:=DevP ba) h hh)) ?_
 obtain ⟨y5,hl3,hK4⟩ := seq_e h
 refine zdg (X:=(List Dvc) × Sl3 × (List IfH)) [2,3,4,5,6,7,8,9,10,11,12,13,14,15,16,17,18,19,20,21,22,23,24,25,26,27,28,29,30,31] (fun ⟨a9,hd7,hs8⟩=>([(3,hd7.v)]:Slots)) (fun ⟨a9,hd7,hs8⟩ R=>sl tyDev hd7.v hs8::Rs (DevP ba) a9 hs8::R) (fun ⟨a9,hd7,hs8⟩=>y5 = .inl a9) (Dels.cons del0 (dC_ del0)) ?_ ?_
 ·
  refine zao<|za8 (X:=Nat × (List Dvc) × Nat × Sl3 × (List IfH)) [2,3,4,5,6,7,8,9,10,11,12,13,14,15,16,17,18,19,20,21,22,23,24,25,26,27,28,29,30,31] (fun ⟨n,x10,x13,hd11,hs12⟩=>([(3,hd11.v),(4,.int .i64 (((x13:Nat):Int)))]:Slots)) (fun ⟨n,x10,x13,hd11,hs12⟩ R=>sl tyDev hd11.v hs12::Rs (DevP ba) x10 hs12::R) (fun ⟨n,x10,x13,hd11,hs12⟩=>zc0 a n x10 x13=some y5) (fun ⟨n,x10,x13,hd11,hs12⟩=>n) ⟨FUEL,([]:List Dvc),0,⟨none,0,0⟩,([]:List IfH)⟩ ?_ ?_ r_ ?_
  · exact hl3
  · exact ⟨rfl,rfl,True.intro⟩
  ·
   rintro ⟨n,x10,x13,hd11,hs12⟩ h
   cases n with
   | zero=>exact zdr h
   | succ n => ?_
   replace h:zcs a (zc0 a n) x10 x13=some y5 := h
   unfold zcs at h
   show CJ _ _ _ _ _ (([(3,hd11.v),(4,.int .i64 (((x13:Nat):Int)))]:Slots) ++ forget _ _) (sl tyDev hd11.v hs12::Rs (DevP ba) x10 hs12::_)
   refine lC del0 fun hlen14=>zdy (fun h hh=>zol (zbd (del1 (A:=Rs (DevP ba) x10 hs12)).out h hh)) fun hdl15=>zab<|sR<|oM rfl<|oM rfl<|oO<|zai (zx0) rfl Tryz.call39 (dC_ del2) rfl fun _ _=>oP (P_lss (a:=((x13:Nat):Int)) (b:=((a.drv.length:Nat):Int)) rfl rfl)<|nT<|zbt rfl zaq (fun hg1 => ?_) (fun hg1 => ?_)
   ·
    replace h := ite_t hg1 h
    refine kT<|zab<|zao<|sR<|oM rfl<|oM rfl<|oM rfl<|oM rfl<|oO<|zai (zps) rfl Tryz.call40 (dC_ del0) rfl fun _ _ => ?_
    obtain ⟨r16,hr17,h⟩ := zb9 h
    refine oO<|zai (zl6 hr17) rfl Tryz.call19 (dC_ del0) rfl fun X18 _=>oM rfl<|oP (zaj rfl rfl)<|oP (zaj rfl rfl)<|oA rfl<|oA rfl<|nT<|zab<|sR<|oM rfl<|oP (P_neq (a:=r16.2) (b:=(0:Int)) rfl rfl)<|oM rfl<|zb7 rfl rfl rfl (fun hG20=>have hP21:¬ (r16.2≠(0:Int)) := nP (zaq) hG20; VJ_P (zae rfl))<|zeb 24 rfl zaq (fun hg2B hg2 => ?_) (fun hg2B hg2 => ?_)
    ·
     replace h := ite_t hg2 h
     refine g_ rfl rfl rfl hg2B rfl<|oP (zbe rfl hg2B rfl)<|nT<|za7 rfl rfl<|sR<|oA rfl<|nT<|zaf<|zak<|zax<|zak<|zbm<|zax<|zak<|zvi (fun h hh=>zch (t:=tyDev) h (zry (RP:=DevP ba) h hh)) ?_
     have hE := Option.some.inj h
     replace hE := zf2 hK4 hE.symm
     subst hE
     exact fE (res1 Tryz.results15 rfl) ((⟨none,0,0⟩,([]:List IfH))) (t2_ (t0_ (t0_ (e_ (e_ (e_ r_))))))
    ·
     replace h := ite_f hg2 h
     rcases opt_e h with ⟨ht26,h⟩ | ⟨o27,ht26,h⟩
     ·
      rw [ht26]
      refine zcg (t0_ (t1_ (t1_ (e_ r_))))<|p_ rfl rfl rfl hg2B (zz9 (mbx (not_f hg2B) rfl) Tryz.underlying38)<|oP (za2 rfl hg2B rfl)<|nT<|za7 rfl rfl<|sR<|oA rfl<|nT<|zaf<|zak<|zax<|zak<|zbm<|zax<|zak<|zvi (fun h hh=>zch (t:=tyDev) h (zry (RP:=DevP ba) h hh)) ?_
      have hE := Option.some.inj h
      replace hE := zf2 hK4 hE.symm
      subst hE
      exact fE (res1 Tryz.results15 rfl) ((⟨none,0,0⟩,([]:List IfH))) (t2_ (t0_ (t0_ (e_ (e_ r_)))))
     ·
      rw [ht26]
      refine zcg (Ent.takeC (A' := DevP ba o27 X18) del1 rfl r_)<|p_ rfl rfl rfl hg2B (znv (mbx (not_f hg2B) rfl) rfl Tryz.underlying38)<|oP (za2 rfl hg2B rfl)<|nT<|zap rfl rfl<|kT<|zag<|oM rfl<|oM rfl<|oO<|za4 rfl (zwa _ _) rfl fun b30 => ?_
      obtain ⟨hg3,h⟩ := zgg h
      refine oO<|zb1 (t:=tyDev) (bytes:=16) rfl rfl del3 foc0 (Reads.lit (t:=tyDev) (ys:=[X18]) rfl rfl (by decide) (by decide) rfl) Tryz.underlying52 zny (apl (m:=1) (b:=16) (by have hz:_≤1000000000 := hg3; have := hdl15; omega) (by decide)).1 (apl (m:=1) (b:=16) (by have hz:_≤1000000000 := hg3; have := hdl15; omega) (by decide)).2 rfl fun p32 c33=>zcg (Ent.trans (t4_ (t2_ r_)) (z0e (x:=o27) (g:=X18) (fun _ _=>zx3)))<|zhj (fun h hh=>zol (zbd (del0 (A:=Rs (DevP ba) (x10 ++ [o27]) (hs12 ++ [X18]))).out h hh)) fun hdl34=>oA rfl<|za0<|zah<|zar<|zag<|oM rfl ?_
      obtain ⟨hg4,h⟩ := zg5 h
      exact oP (PJ_eq (P_add (a:=((x13:Nat):Int)) (b:=(1:Int)) rfl rfl (zg6 hg4)) rfl)<|oA rfl<|za0<|nR ⟨n,(x10 ++ [o27]),(x13 + 1),⟨p32,(hs12 ++ [X18]).length,c33⟩,(hs12 ++ [X18])⟩ h ⟨rfl,rfl,True.intro⟩ (t2_ (t0_ (t2_ (e_ (e_ r_)))))
   ·
    replace h := ite_f hg1 h
    exact zbc<|zay<|zau<|zat<|cR ⟨x10,hd11,hs12⟩ (Option.some.inj h).symm ⟨rfl,True.intro⟩ (t1_ (t1_ r_))
 ·
  rintro ⟨a9,hd7,hs8⟩ hy35
  replace h := zgs hK4 hy35
  show CJ _ _ _ _ _ (([(3,hd7.v)]:Slots) ++ forget _ _) (sl tyDev hd7.v hs8::Rs (DevP ba) a9 hs8::_)
  refine lC del0 fun hlen36=>zdy (fun h hh=>zol (zbd (del1 (A:=Rs (DevP ba) a9 hs8)).out h hh)) fun hdl37=>sR<|oM rfl<|oA rfl<|nT<|zaf ?_
  cases h
  exact fE (res1 Tryz.results15 rfl) (hd7,hs8) (t2_ r_)
end Go.Proofs
namespace Go.Proofs
open Go.VG
def mkS (ims:List (List UInt64)):ArrS := ⟨ims.map (fun im=>⟨im,im,false⟩),[],[],0,false,0⟩
theorem zhp {n:Nat} (h:n≤1000000000):inLen n=true := inLen_iff.2 h
theorem zn1 {n:Nat} (h:n≤9000000000000000000):inN64 n=true := inN64_iff.2 (by omega)
theorem grd_t {α:Type} {b:Bool} {o:Option α} (h:b=true):grd b o=o := by rw [h]; rfl
theorem zx4 {α ρ:Type} {a:α} {k:α→Option ρ} : seqO (some (.inl a)) k=k a := rfl
def lensI (l:List (List UInt64)):List Int := l.map fun im=>(im.length:Int)
theorem zjy {α:Type} {l:List α} {i:Nat} {d:α} (h:i < l.length):l.take (i + 1)=l.take i ++ [l.getD i d] := by
  rw [List.take_succ_eq_append_getElem h]; simp [List.getD,h]
theorem zqv {l:List (List UInt64)} (h8:l.length≤1000):∀ (N i:Nat) (acc:List Int),l.length - i < N→i≤l.length→acc=lensI (l.take i) →
    zcv l N acc i=some (lensI l)
  | 0,_,_,h,_,_=>absurd h (by omega)
  | N + 1,i,acc,h,hi,ha=>by
    show zcp _ _ _ _=_
    unfold zcp
    subst ha
    by_cases hlt:i < l.length
    · rw [if_pos (by omega),grd_t (zhp (by simp [lensI]; omega)),grd_t (zn1 (by omega))]
      refine zqv h8 N (i + 1) _ (by omega) (by omega) ?_
      rw [zjy (d:=[]) hlt]; simp [lensI]
    · rw [if_neg (by omega)]
      have:i=l.length := by omega
      rw [this,List.take_length]
def ldDrv (l:List (List UInt64)) (i:Nat):List Drive := (l.take i).map (fun im=>⟨im,im,false⟩) ++ (lensI (l.drop i)).map mkD
theorem zqw {l:List (List UInt64)} (h8:l.length≤8) (hz:∀ im ∈ l,1≤im.length∧im.length≤65536):∀ (N i:Nat) (x:ArrS),l.length - i < N→i≤l.length→x=⟨ldDrv l i,[],[],0,false,0⟩ →
    zcw l N x i=some (.inl (mkS l))
  | 0,_,_,h,_,_=>absurd h (by omega)
  | N + 1,i,x,h,hi,hx=>by
    show zcq _ _ _ _=_
    unfold zcq
    subst hx
    by_cases hlt:i < l.length
    · have hlen:(ldDrv l i).length=l.length := by simp [ldDrv,lensI]; omega
      have hin:inR ⟨ldDrv l i,[],[],0,false,0⟩ (i:Int) := by unfold inR; simp only [hlen]; omega
      have hg:(ldDrv l i).getD i d0=mkD ((l.getD i []).length:Int) := by
        unfold ldDrv
        have e1:((l.take i).map (fun im=>(⟨im,im,false⟩:Drive))).length=i := by simp; omega
        simp only [List.getD]
        rw [List.getElem?_append_right (by omega),e1,Nat.sub_self,List.drop_eq_getElem_cons hlt]; simp [lensI,hlt]
      have hc:ldC ⟨ldDrv l i,[],[],0,false,0⟩ (i:Int) (l.getD i [])=0 := by
        unfold ldC; rw [if_pos hin]; simp only [Int.toNat_natCast,hg]
        rw [if_pos (by simp [mkD])]
      rw [if_pos (by omega),grd_t (zhp (by simp)),if_neg (by rw [hc]; simp),grd_t (zn1 (by omega))]
      refine zqw h8 hz N (i + 1) _ (by omega) (by omega) ?_
      have hC:ldS ⟨ldDrv l i,[],[],0,false,0⟩ (i:Int) (l.getD i [])=⟨ldDrv l (i + 1),[],[],0,false,0⟩ := by
        unfold ldS; rw [if_pos hc]
        have hd:∀ n,zgx [] (i:Int) n=[] := fun n=>by
          induction n with
          | zero=>rfl
          | succ n ih=>rw [← zl5,ih]; rfl
        simp only [Int.toNat_natCast,hg,hd,List.filter_nil]
        congr 1
        unfold ldDrv
        rw [zjy (d:=[]) hlt,List.drop_eq_getElem_cons hlt]
        have e1:((l.take i).map (fun im=>(⟨im,im,false⟩:Drive))).length=i := by simp; omega
        rw [List.set_append_right _ _ (by omega),e1,Nat.sub_self]
        simp only [lensI,List.map_cons,List.set_cons_zero,List.map_append,List.map_nil,List.append_assoc,List.cons_append,List.nil_append]
        rfl
      exact hC
    · rw [if_neg (by omega)]
      have:i=l.length := by omega
      rw [this]; simp [ldDrv,mkS,lensI]
theorem zwb {l:List (List UInt64)} (h8:l.length≤8) (hz:∀ im ∈ l,1≤im.length∧im.length≤65536):zda l=some (some (mkS l)) := by
  unfold zda
  have hF := zkn
  generalize FUEL=N at hF ⊢
  rw [zqv (by omega) N 0 [] (by omega) (by omega) (by simp [lensI])]
  have hN:newB (lensI l)=true := by
    unfold newB
    rw [Bool.and_eq_true,Nat.ble_eq,List.all_eq_true]
    refine ⟨by simpa [lensI] using h8,fun z hz' => ?_⟩
    obtain ⟨im,him,rfl⟩ := List.mem_map.1 hz'
    have := hz im him
    simp; omega
  simp only [Option.bind_some]
  rw [grd_t (zhp (by simp [lensI]; omega))]
  have hnc:newC (lensI l)=0 := by unfold newC; rw [if_pos hN]
  have hno:newO (lensI l)=some (newS (lensI l)) := by unfold newO; rw [if_pos hN]
  rw [if_neg (by rw [hnc]; simp),hno]
  simp only [Option.elim]
  rw [zqw h8 hz N 0 _ (by omega) (by omega) (by simp [newS,ldDrv])]
  rfl
end Go.Proofs
namespace Go.Proofs
open Go.VG
theorem zpw {n k m:Int} (hn:0≤n∧n≤4611686018427387904):zdf n k m=some (decide (0≤k∧k≤n∧0≤m∧m≤n - k)) := by
  unfold zdf
  refine congrArg some ?_
  rw [Bool.eq_iff_iff]
  by_cases h:0≤k∧k≤n
  · rw [zcx (by omega) (by omega)]; simp; omega
  · simp; omega
theorem zio {n k:Int} (hn:0≤n∧n≤4611686018427387904):zdf n k 1=some (decide (0≤k∧k < n)) := by
  rw [zpw hn]; exact congrArg some (decide_eq_decide.2 (by omega))
theorem zku {n:Int} (h : -4611686018427387904≤n∧n≤4611686018427387904):inI64 n=true := inI64_iff.2 (by omega)
def zjz (s:ArrS):List Dvc := (List.range s.drv.length).map fun i=>Dvc.span ((i:Nat):Int) 0 ((s.size i:Nat):Int)
@[simp] theorem z2r {s:ArrS} : (zjz s).length=s.drv.length := by simp [zjz]
theorem zhq {s:ArrS} {i:Nat} (h:i < s.drv.length):sizeI s (i:Int)=((s.size i:Nat):Int) := by
  rw [sizeI,if_pos (show inR s (i:Int) from ⟨by omega,by omega⟩)]; simp
theorem ztz {s:ArrS} {d st n:Int} (h1:1≤n) (h2:0≤st) (h3:st + n≤sizeI s d) (h4:sizeI s d≤1000000000):zg7 s d st n=some (some (Dvc.span d st n),0) := by
  unfold zg7
  rw [if_neg (by omega),zpw (by omega)]
  simp only [Option.bind_some]
  rw [if_neg (by simp; omega)]
theorem span_rd {s:ArrS} {d st n k:Int} (hn:0≤n∧n≤1000000000) (hs:0≤st∧st≤1000000000):(Dvc.span d st n).rd s k=some (if 0≤k∧k < n then (rdV s d (st + k),rdC s d (st + k)) else (0,1)) := by
  show zfd _ _ _ _ _=_
  unfold zfd
  rw [zio (by omega)]; simp only [Option.bind_some]
  by_cases h:0≤k∧k < n
  · rw [if_neg (by simp [h]),grd_t (zku (by omega)),if_pos h]
  · rw [if_pos (by simpa using h),if_neg h]
theorem span_wr {s:ArrS} {d st n k:Int} {v:UInt64} (hn:0≤n∧n≤1000000000) (hs:0≤st∧st≤1000000000) (hw:s.writes≤1000000000):(Dvc.span d st n).wr s k v=some (if 0≤k∧k < n then (wrR s d (st + k),wrS s d (st + k) v) else (1,s)) := by
  show zes _ _ _ _ _ _=_
  unfold zes
  rw [zio (by omega)]; simp only [Option.bind_some]
  by_cases h:0≤k∧k < n
  · rw [if_neg (by simp [h]),grd_t (zku (by omega)),grd_t (zhp hw),if_pos h]
  · rw [if_pos (by simpa using h),if_neg h]
theorem zt0 {s:ArrS} {d st n:Int} (hw:s.writes≤1000000000):(Dvc.span d st n).fl s=some (flC s d,flS s d) := by
  show zet s d st n=_
  unfold zet
  rw [grd_t (zhp hw)]
theorem zn2 {n k m:Int} (hn:n≤1000000000) (h:0≤k∧0≤m∧k + m≤n):zdf n k m=some true := by
  rw [zpw (by omega)]; exact congrArg some (decide_eq_true (by omega))
end Go.Proofs
namespace Go.Proofs
open Go.VG
def nowL (s:ArrS) (d:Nat):List UInt64 := (s.drv.getD d d0).now
theorem zdj {s:ArrS} {d:Nat} : s.size d=(nowL s d).length := rfl
structure Good (s:ArrS):Prop where
  down:s.down=false
  fuse:s.fuse=0
  bad:s.bad=[]
  miss:∀ d,(s.drv.getD d d0).miss=false
@[simp] theorem drv_mkS {ims:List (List UInt64)} : (mkS ims).drv.length=ims.length := by simp [mkS]
theorem Good.chk {s:ArrS} (hg:Good s) {d a:Nat} (hd:d < s.drv.length) (ha:a < s.size d):cPow s=0∧cLoc s d=0∧cPla s d a=0∧cPre s d=0∧cWho s d a=0 := by
  refine ⟨by simp [cPow,hg.down],?_,?_,by simp only [cPre,missI,Int.toNat_natCast,hg.miss d]; rfl,by simp [cWho,isBad,hg.bad,lookM]⟩
  · rw [cLoc,if_pos (show inR s (d:Int) from ⟨by omega,by omega⟩)]
  · rw [cPla,zhq hd,if_pos (by omega)]
theorem Good.rdC {s:ArrS} (hg:Good s) {d a:Nat} (hd:d < s.drv.length) (ha:a < s.size d):rdC s d a=0 := by
  obtain ⟨h1,h2,h3,h4,h5⟩ := hg.chk hd ha
  simp [Go.Proofs.rdC,fz,h1,h2,h3,h4,h5]
theorem Good.rdV {s:ArrS} (hg:Good s) {d a:Nat} (hd:d < s.drv.length) (ha:a < s.size d):rdV s d a=(nowL s d).getD a 0 := by
  rw [Go.Proofs.rdV,if_pos (hg.rdC hd ha)]; rfl
def wr1 (s:ArrS) (d a:Nat) (v:UInt64):ArrS := { s with drv := zdc s d a v,log := s.log ++ [⟨d,a,v⟩],writes := s.writes + 1 }
theorem Good.wr {s:ArrS} (hg:Good s) {d a:Nat} {v:UInt64} (hd:d < s.drv.length) (ha:a < s.size d):wrR s d a=0∧wrS s d a v=wr1 s d a v := by
  obtain ⟨h1,h2,h3,h4,h5⟩ := hg.chk hd ha
  have hc:wrC s d a=0 := by simp [wrC,fz,h1,h2,h3,h4]
  refine ⟨by rw [wrR,if_neg (by simp [hc]),if_neg (by rw [hg.fuse]; decide)],?_⟩
  rw [wrS,if_neg (by simp [hc]),if_neg (by rw [hg.fuse]; decide)]
  have hdel:delM ([]:List ((Int × Int) × Unit)) ((d:Int),(a:Int))=[] := rfl
  simp only [wr1,Int.toNat_natCast,hg.bad,hg.fuse,hdel]
theorem zn3 {s:ArrS} {d a e:Nat} {v:UInt64} (hd:d < s.drv.length):nowL (wr1 s d a v) e=if e=d then (nowL s d).set a v else nowL s e := by
  unfold nowL wr1 zdc
  simp only [List.getD,List.getElem?_set]
  by_cases h:d=e
  · subst h; simp [hd]
  · rw [if_neg h,if_neg (fun x=>h x.symm)]
@[simp] theorem zpx {s:ArrS} {d a:Nat} {v:UInt64} : (wr1 s d a v).drv.length=s.drv.length := by simp [wr1,zdc]
@[simp] theorem zu5 {s:ArrS} {d a:Nat} {v:UInt64} : (wr1 s d a v).writes=s.writes + 1 := rfl
theorem zn4 {s:ArrS} {d a e:Nat} {v:UInt64} (hd:d < s.drv.length):(wr1 s d a v).size e=s.size e := by
  rw [zdj,zdj,zn3 hd]; split
  · rename_i h; rw [List.length_set,h]
  · rfl
theorem Good.wr1 {s:ArrS} (hg:Good s) {d a:Nat} {v:UInt64} : Good (wr1 s d a v) where
  down := hg.down
  fuse := hg.fuse
  bad := hg.bad
  miss e := by
    have h0 := hg.miss e
    simp only [Go.Proofs.wr1,zdc,List.getD,List.getElem?_set] at h0 ⊢
    by_cases h:d=e
    · subst h
      by_cases hl:d < s.drv.length
      · have h1 := hg.miss d
        simp [hl,List.getD] at h1 ⊢
        exact h1
      · simp [hl]
    · rw [if_neg h]; exact h0
end Go.Proofs
namespace Go.Proofs
open Go.VG
theorem Good.span_rd {s:ArrS} (hg:Good s) {d st n k:Nat} (hd:d < s.drv.length) (hk:k < n) (hn:st + n≤s.size d) (hb:s.size d≤1000000000):(Dvc.span (d:Int) (st:Int) (n:Int)).rd s (k:Int)=some ((nowL s d).getD (st + k) 0,0) := by
  rw [Go.Proofs.span_rd (by omega) (by omega),if_pos (by omega)]
  have e:(st:Int) + (k:Int)=((st + k:Nat):Int) := by omega
  rw [e,hg.rdC hd (by omega),hg.rdV hd (by omega)]
theorem Good.span_wr {s:ArrS} (hg:Good s) {d st n k:Nat} {v:UInt64} (hd:d < s.drv.length) (hk:k < n) (hn:st + n≤s.size d) (hb:s.size d≤1000000000) (hw:s.writes≤1000000000):(Dvc.span (d:Int) (st:Int) (n:Int)).wr s (k:Int) v=some (0,Go.Proofs.wr1 s d (st + k) v) := by
  rw [Go.Proofs.span_wr (by omega) (by omega) hw,if_pos (by omega)]
  have e:(st:Int) + (k:Int)=((st + k:Nat):Int) := by omega
  rw [e,(hg.wr (v:=v) hd (by omega)).1,(hg.wr hd (by omega)).2]
def wrN (s:ArrS) (d a:Nat) (f:Nat→UInt64):Nat→ArrS
  | 0=>s
  | n + 1=>wr1 (wrN s d a f n) d (a + n) (f n)
theorem Good.wrN {s:ArrS} (hg:Good s) {d a:Nat} {f:Nat→UInt64} : ∀ n,Good (wrN s d a f n)
  | 0=>hg
  | n + 1=>(Good.wrN hg n).wr1
@[simp] theorem z0s {s:ArrS} {d a:Nat} {f:Nat→UInt64} : ∀ {n},(wrN s d a f n).drv.length=s.drv.length
  | 0=>rfl
  | n + 1=>by rw [wrN,zpx,z0s]
@[simp] theorem zu6 {s:ArrS} {d a:Nat} {f:Nat→UInt64} : ∀ {n},(wrN s d a f n).writes=s.writes + n
  | 0=>rfl
  | n + 1=>by rw [wrN,zu5,zu6]; omega
theorem getD_set_ne {l:List UInt64} {i j:Nat} {v:UInt64} (h:i≠j):(l.set i v).getD j 0=l.getD j 0 := by
  simp [List.getD,List.getElem?_set,h]
theorem zjp {l:List UInt64} {i:Nat} {v:UInt64} (h:i < l.length):(l.set i v).getD i 0=v := by
  simp [List.getD,List.getElem?_set,h]
end Go.Proofs
namespace Go.Proofs
open Go.VG
def durL (s:ArrS) (d:Nat):List UInt64 := (s.drv.getD d d0).dur
def pendR (log:List Rec) (d a:Nat):List UInt64 := (log.filter fun r=>decide (r.d=d∧r.a=a)).map Rec.v
abbrev pend (s:ArrS) (d a:Nat):List UInt64 := pendR s.log d a
def now (s:ArrS) (d a:Nat):UInt64 := (nowL s d).getD a 0
def dur (s:ArrS) (d a:Nat):UInt64 := (durL s d).getD a 0
abbrev cand (s:ArrS) (d a:Nat):List UInt64 := dur s d a::pend s d a
theorem zwc {d a:Nat} : pendR [] d a=[] := rfl
theorem zl7 {l l':List Rec} {d a:Nat} : pendR (l ++ l') d a=pendR l d a ++ pendR l' d a := by simp [pendR]
theorem zqx {r:Rec} {d a:Nat} : pendR [r] d a=if r.d=d∧r.a=a then [r.v] else [] := by
  by_cases h:r.d=d∧r.a=a
  · simp [pendR,h]
  · simp [pendR,h]
theorem zkv {r:Rec} {l:List Rec} {d a:Nat} : pendR (r::l) d a=if r.d=d∧r.a=a then r.v::pendR l d a else pendR l d a := by
  rw [show r::l=[r] ++ l from rfl,zl7,zqx]; split <;> rfl
theorem zsa {l:List Rec} {d e a:Nat} : pendR (zds e l) d a=if d=e then [] else pendR l d a := by
  unfold pendR zds
  rw [List.filter_filter]
  by_cases h:d=e
  · subst h
    rw [if_pos rfl,List.filter_eq_nil_iff.2]; · rfl
    intro r _ hr; simp at hr; exact hr.2 hr.1.1
  · rw [if_neg h]
    congr 1; apply List.filter_congr; intro r _
    by_cases h2:r.d=d∧r.a=a
    · simp [h2,h]
    · simp [h2]
def lastD:UInt64→List UInt64→UInt64
  | d,[]=>d
  | _,x::l=>lastD x l
theorem zou {v:UInt64} : ∀ {l:List UInt64} {d:UInt64},lastD d (l ++ [v])=v
  | [],_=>rfl
  | x::l,_=>zou (l:=l) (d:=x)
theorem zqy:∀ {l:List UInt64} {d:UInt64},lastD d l ∈ d::l
  | [],_=>List.mem_cons_self
  | x::l,_=>List.mem_cons_of_mem _ (zqy (l:=l) (d:=x))
structure Coh (s:ArrS):Prop where
  len:∀ d,(durL s d).length=(nowL s d).length
  last:∀ d a,a < s.size d→lastD (dur s d a) (pend s d a)=now s d a
  log:∀ r ∈ s.log,r.d < s.drv.length∧r.a < s.size r.d
theorem zt1 {ims:List (List UInt64)} : Coh (mkS ims) where
  len d := by simp only [durL,nowL,mkS,List.getD,List.getElem?_map]; cases ims[d]? <;> rfl
  last d a _ := by
    show dur (mkS ims) d a=_
    simp only [dur,now,durL,nowL,mkS,List.getD,List.getElem?_map]
    cases ims[d]? <;> rfl
  log r h := by cases h
theorem zx5 {l:List UInt64} {i j:Nat} {v:UInt64} (h:i < l.length):(l.set i v).getD j 0=if j=i then v else l.getD j 0 := by
  by_cases e:j=i
  · subst e; rw [if_pos rfl,zjp h]
  · rw [if_neg e,getD_set_ne (fun x=>e x.symm)]
theorem zeu {l:List Drive} {i j:Nat} {x:Drive} (h:i < l.length):(l.set i x).getD j d0=if j=i then x else l.getD j d0 := by
  simp only [List.getD,List.getElem?_set]
  by_cases e:i=j
  · subst e; simp [h]
  · rw [if_neg e,if_neg (fun x=>e x.symm)]
section
variable {s:ArrS} {d a:Nat} {v:UInt64}
theorem zsb {e:Nat} (hd:d < s.drv.length):durL (wr1 s d a v) e=durL s e := by
  unfold durL wr1 zdc
  rw [zeu hd]; split
  · rename_i h; subst h; rfl
  · rfl
theorem zsc {e b:Nat} : pend (wr1 s d a v) e b=if d=e∧a=b then pend s e b ++ [v] else pend s e b := by
  show pendR (s.log ++ [⟨d,a,v⟩]) e b=_
  rw [zl7,zqx]; split <;> simp_all
theorem zt2 {e b:Nat} (hd:d < s.drv.length) (ha:a < s.size d):now (wr1 s d a v) e b=if d=e∧a=b then v else now s e b := by
  unfold now
  rw [zn3 hd]
  by_cases h:e=d
  · subst h; rw [if_pos rfl,zx5 (show a < (nowL s e).length from ha)]
    by_cases h2:b=a
    · subst h2; simp
    · rw [if_neg h2,if_neg (fun x=>h2 x.2.symm)]
  · rw [if_neg h,if_neg (fun x=>h x.1.symm)]
theorem zt3 {e b:Nat} (hd:d < s.drv.length):dur (wr1 s d a v) e b=dur s e b := by unfold dur; rw [zsb hd]
theorem Coh.wr1 (hc:Coh s) (hd:d < s.drv.length) (ha:a < s.size d):Coh (wr1 s d a v) where
  len e := by rw [zsb hd,zn3 hd]; split
              · rename_i h; subst h; rw [List.length_set]; exact hc.len _
              · exact hc.len e
  last e b hb := by
    rw [zn4 hd] at hb
    have h1 := hc.last e b hb
    rw [zt3 hd,zsc,zt2 hd ha]
    by_cases h:d=e∧a=b
    · rw [if_pos h,if_pos h,zou]
    · rw [if_neg h,if_neg h]; exact h1
  log r hr := by
    rw [zpx,zn4 hd]
    rcases List.mem_append.1 (show r ∈ s.log ++ [⟨d,a,v⟩] from hr) with h | h
    · exact hc.log r h
    · rw [List.mem_singleton.1 h]; exact ⟨hd,ha⟩
end
def fl1 (s:ArrS) (d:Nat):ArrS := { s with drv := s.drv.set d { s.drv.getD d d0 with dur := flDur (s.drv.getD d d0).now d s.log (s.drv.getD d d0).dur },log := zds d s.log }
theorem zsd {nw:List UInt64} {i a:Nat} : ∀ {log:List Rec} {du:List UInt64},a < du.length→(flDur nw i log du).getD a 0=if pendR log i a=[] then du.getD a 0 else nw.getD a 0
  | [],du,_=>by rw [zwc,if_pos rfl]; rfl
  | r::log,du,h=>by
    show (flDur nw i log (if r.d=i then du.set r.a (nw.getD r.a 0) else du)).getD a 0=_
    rw [zsd (by split <;> simpa using h),zkv]
    by_cases hr:r.d=i
    · rw [if_pos hr]
      by_cases ha:r.a=a
      · rw [show (if r.d=i∧r.a=a then r.v::pendR log i a else pendR log i a)=r.v::pendR log i a from if_pos ⟨hr,ha⟩,if_neg (show ¬ r.v::pendR log i a=[] by simp)]
        subst ha
        split
        · rw [zjp h]
        · rfl
      · rw [show (if r.d=i∧r.a=a then r.v::pendR log i a else pendR log i a)=pendR log i a from if_neg (fun x=>ha x.2),getD_set_ne ha]
    · rw [if_neg hr,show (if r.d=i∧r.a=a then r.v::pendR log i a else pendR log i a)=pendR log i a from if_neg (fun x=>hr x.1)]
section
variable {s:ArrS} {d:Nat}
@[simp] theorem zpy:(fl1 s d).drv.length=s.drv.length := by simp [fl1]
theorem zkw {e:Nat} (hd:d < s.drv.length):nowL (fl1 s d) e=nowL s e := by
  unfold nowL fl1
  rw [zeu hd]; split
  · rename_i h; subst h; rfl
  · rfl
theorem ziu {e:Nat} (hd:d < s.drv.length):(fl1 s d).size e=s.size e := by rw [zdj,zdj,zkw hd]
theorem zkx {e b:Nat} : pend (fl1 s d) e b=if e=d then [] else pend s e b := zsa
theorem zpz {e b:Nat} (hc:Coh s) (hd:d < s.drv.length) (hb:b < s.size e):dur (fl1 s d) e b=if e=d then now s e b else dur s e b := by
  unfold dur durL fl1
  rw [zeu hd]
  by_cases h:e=d
  · subst h
    rw [if_pos rfl,if_pos rfl]
    have hl := hc.last e b hb
    rw [zsd (by have := hc.len e; unfold durL at this; rw [this]; exact hb)]
    by_cases hp:pendR s.log e b=[]
    · rw [if_pos hp]
      have:pend s e b=[] := hp
      rw [this] at hl
      exact hl
    · rw [if_neg hp]; rfl
  · rw [if_neg h,if_neg h]
theorem zt4 {e b:Nat} (hd:d < s.drv.length):now (fl1 s d) e b=now s e b := by unfold now; rw [zkw hd]
theorem Coh.fl1 (hc:Coh s) (hd:d < s.drv.length):Coh (fl1 s d) where
  len e := by
    rw [zkw hd]
    unfold durL Go.Proofs.fl1
    rw [zeu hd]; split
    · rename_i h; subst h; rw [zjg]; exact hc.len _
    · exact hc.len e
  last e b hb := by
    rw [ziu hd] at hb
    have h1 := hc.last e b hb
    rw [zpz hc hd hb,zkx,zt4 hd]
    by_cases h:e=d
    · rw [if_pos h,if_pos h]; rfl
    · rw [if_neg h,if_neg h]; exact h1
  log r hr := by
    rw [zpy,ziu hd]
    exact hc.log r (List.mem_filter.1 (show r ∈ zds d s.log from hr)).1
theorem zse {e:Nat} (hd:d < s.drv.length):((fl1 s d).drv.getD e d0).miss=(s.drv.getD e d0).miss := by
  unfold fl1
  rw [zeu hd]; split
  · rename_i h; subst h; rfl
  · rfl
theorem Good.fl1 (hg:Good s) (hd:d < s.drv.length):Good (fl1 s d) where
  down := hg.down
  fuse := hg.fuse
  bad := hg.bad
  miss e := by rw [zse hd]; exact hg.miss e
theorem flC_of (hdn:s.down=false) (hd:d < s.drv.length):flC s d=if (s.drv.getD d d0).miss then 6 else 0 := by
  have h1:cPow s=0 := by simp [cPow,hdn]
  have h2:cLoc s d=0 := by rw [cLoc,if_pos (show inR s (d:Int) from ⟨by omega,by omega⟩)]
  simp only [flC,fz,h1,h2,cPre,missI,Int.toNat_natCast]
  by_cases hm:(s.drv.getD d d0).miss=true
  · simp [hm]
  · simp [hm]
theorem flS_of (h:flC s d=0):flS s d=fl1 s d := zr9 h
end
theorem zn5 {ks:List Bool} {d a:Nat} : ∀ {log:List Rec} {n:Nat} {ds:List Drive},d < ds.length→a < (ds.getD d d0).dur.length →
    (((rsGo ks n log ds).getD d d0).dur.getD a 0) ∈ ((ds.getD d d0).dur.getD a 0)::pendR log d a
  | [],_,_,_,_=>List.mem_cons_self
  | r::log,n,ds,hd,ha=>by
    show ((rsGo ks (n + 1) log (if ks.getD n false=true then putD ds r else ds)).getD d d0).dur.getD a 0 ∈ _
    have hk := zqu ds r d
    by_cases h:ks.getD n false=true
    · rw [if_pos h]
      have := zn5 (ks:=ks) (d:=d) (a:=a) (log:=log) (n:=n + 1) (ds:=putD ds r) (by rw [hk.1]; exact hd) (by rw [hk.2.2.1]; exact ha)
      rw [zkv]
      by_cases hr:r.d=d
      · have e1:(putD ds r).getD d d0 = { ds.getD d d0 with dur := (ds.getD d d0).dur.set r.a r.v } := by
          unfold putD; rw [zeu (by omega),if_pos hr.symm,hr]
        rw [e1] at this
        by_cases hra:r.a=a
        · rw [if_pos ⟨hr,hra⟩]
          rw [hra,zjp ha] at this
          exact List.mem_cons_of_mem _ this
        · rw [if_neg (fun x=>hra x.2)]
          rw [getD_set_ne hra] at this
          exact this
      · have e1:(putD ds r).getD d d0=ds.getD d d0 := by
          unfold putD
          by_cases hl:r.d < ds.length
          · rw [zeu hl,if_neg (fun x=>hr x.symm)]
          · rw [List.set_eq_of_length_le (by omega)]
        rw [e1] at this
        rw [if_neg (fun x=>hr x.1)]; exact this
    · rw [if_neg h,zkv]
      have := zn5 (ks:=ks) (d:=d) (a:=a) (log:=log) (n:=n + 1) (ds:=ds) hd ha
      split
      · rcases List.mem_cons.1 this with e | e
        · rw [e]; exact List.mem_cons_self
        · exact List.mem_cons_of_mem _ (List.mem_cons_of_mem _ e)
      · exact this
section
variable {s:ArrS} {ks:List Bool}
@[simp] theorem drv_rs:(rsS s ks).drv.length=s.drv.length := by simp [rsS,(ze3 ks s.log 0 s.drv 0).1]
theorem zp0 {d:Nat} : nowL (rsS s ks) d=durL (rsS s ks) d := by unfold nowL durL; rw [rs_at]; rfl
theorem zto {d:Nat} : (durL (rsS s ks) d).length=(durL s d).length := by
  unfold durL; rw [rs_at]; exact (ze3 ks s.log 0 s.drv d).2.2.1
theorem z0t {d:Nat} (hc:Coh s):(rsS s ks).size d=s.size d := by rw [zdj,zp0,zto,hc.len]; rfl
theorem zsf {d a:Nat} : now (rsS s ks) d a=dur (rsS s ks) d a := by unfold now dur; rw [zp0]
theorem dur_rs {d a:Nat} (hc:Coh s) (hd:d < s.drv.length) (ha:a < s.size d):dur (rsS s ks) d a ∈ cand s d a := by
  unfold dur durL; rw [rs_at]
  exact zn5 hd (by have := hc.len d; unfold durL at this; rw [this]; exact ha)
theorem Coh.rs (hc:Coh s):Coh (rsS s ks) where
  len d := by rw [zp0]
  last d a _ := by show dur (rsS s ks) d a=_; rw [zsf]
  log r h := by cases h
theorem z0u {d:Nat} : ((rsS s ks).drv.getD d d0).miss=(s.drv.getD d d0).miss := by rw [rs_at]; exact (ze3 ks s.log 0 s.drv d).2.2.2
end
end Go.Proofs
namespace Go.Proofs
open Go.VG
structure InSz (ns:List Nat) (s:ArrS):Prop where
  cnt:s.drv.length=ns.length
  size:∀ d,d < ns.length→s.size d=ns.getD d 0
  wr:s.writes≤1000000000
theorem z0v {s:ArrS} {d:Nat} : (flS s d).drv.length=s.drv.length := by unfold flS; split <;> simp
theorem zu7 {s:ArrS} {d:Int} : (flS s d).writes=s.writes := by unfold flS; split <;> rfl
theorem zx6 {s:ArrS} {d e:Nat} : (flS s d).size e=s.size e := by
  unfold flS; split
  · rfl
  · rename_i h
    have hd:d < s.drv.length := by
      rcases Nat.lt_or_ge d s.drv.length with h' | h'
      · exact h'
      · exfalso; apply h
        have:cLoc s (d:Int)=1 := by rw [cLoc,if_neg (fun x:inR s (d:Int)=>by have := x.2; omega)]
        intro h0
        have h1 := h0
        unfold flC fz at h1
        by_cases hp:cPow s=0
        · simp [hp,fz,this] at h1
        · simp [hp] at h1
    exact ziu (s:=s) hd
theorem InSz.flS {ns:List Nat} {s:ArrS} (h:InSz ns s) (d:Nat):InSz ns (flS s d) := ⟨by rw [z0v]; exact h.cnt,fun e he=>by rw [zx6]; exact h.size e he,by rw [zu7]; exact h.wr⟩
def flsS:ArrS→List Nat→ArrS
  | s,[]=>s
  | s,d::ds=>flsS (flS s d) ds
def flsC:ArrS→List Nat→Int
  | _,[]=>0
  | s,d::ds=>if flC s d=0 then flsC (flS s d) ds else flC s d
theorem InSz.flsS {ns:List Nat} : ∀ {ds:List Nat} {s:ArrS},InSz ns s→InSz ns (flsS s ds)
  | [],_,h=>h
  | d::ds,s,h=>show InSz ns (Go.Proofs.flsS (Go.Proofs.flS s d) ds) from InSz.flsS (h.flS d)
structure MapD (ns:List Nat) (x:Dvc) (n:Nat) (f:Nat→Nat × Nat) (ds:List Nat):Prop where
  small:n≤1000000000
  at_:∀ k,k < n→(f k).1 < ns.length∧(f k).2 < ns.getD (f k).1 0∧(f k).1 ∈ ds
  size:∀ s,InSz ns s→x.size s=some (n:Int)
  rd:∀ s (k:Nat),InSz ns s→k < n→x.rd s (k:Int)=some (rdV s (f k).1 (f k).2,rdC s (f k).1 (f k).2)
  rdo:∀ s (k:Int),InSz ns s → ¬ (0≤k∧k < n)→x.rd s k=some (0,1)
  wr:∀ s (k:Nat) v,InSz ns s→k < n→x.wr s (k:Int) v=some (wrR s (f k).1 (f k).2,wrS s (f k).1 (f k).2 v)
  wro:∀ s (k:Int) v,InSz ns s → ¬ (0≤k∧k < n)→x.wr s k v=some (1,s)
  fl:∀ s,InSz ns s→x.fl s=some (flsC s ds,flsS s ds)
theorem MapD.span {ns:List Nat} {d st n:Nat} (hd:d < ns.length) (hn:st + n≤ns.getD d 0) (hb:ns.getD d 0≤1000000000):MapD ns (Dvc.span (d:Int) (st:Int) (n:Int)) n (fun k=>(d,st + k)) [d] where
  small := by omega
  at_ k hk := ⟨hd,by show st + k < ns.getD d 0; omega,List.mem_singleton.2 rfl⟩
  size s h := rfl
  rd s k h hk := by
    rw [span_rd (by omega) (by omega),if_pos (by omega)]
    have e:(st:Int) + (k:Int)=((st + k:Nat):Int) := by omega
    rw [e]
  rdo s k h hk := by rw [span_rd (by omega) (by omega),if_neg hk]
  wr s k v h hk := by
    rw [span_wr (by omega) (by omega) h.wr,if_pos (by omega)]
    have e:(st:Int) + (k:Int)=((st + k:Nat):Int) := by omega
    rw [e]
  wro s k v h hk := by rw [span_wr (by omega) (by omega) h.wr,if_neg hk]
  fl s h := by
    rw [zt0 h.wr]
    show _=some ((if flC s d=0 then (0:Int) else flC s d),flS s d)
    by_cases e:flC s d=0
    · rw [if_pos e,e]
    · rw [if_neg e]
end Go.Proofs
namespace Go.Proofs
open Go.VG
def miss (s:ArrS) (d:Nat):Bool := (s.drv.getD d d0).miss
structure Flushed (s:ArrS) (ds:List Nat) (t:ArrS):Prop where
  drv:t.drv.length=s.drv.length
  now:∀ d,nowL t d=nowL s d
  dur:∀ d a,a < s.size d→dur t d a=if d ∈ ds∧miss s d=false then Go.Proofs.now s d a else Go.Proofs.dur s d a
  pend:∀ d a,pend t d a=if d ∈ ds∧miss s d=false then [] else Go.Proofs.pend s d a
  miss:∀ d,miss t d=Go.Proofs.miss s d
  down:t.down=s.down
  fuse:t.fuse=s.fuse
  bad:t.bad=s.bad
  wr:t.writes=s.writes
  coh:Coh t
theorem Flushed.none {s:ArrS} (h:Coh s):Flushed s [] s where
  drv := rfl
  now _ := rfl
  dur _ _ _ := by simp
  pend _ _ := by simp
  miss _ := rfl
  down := rfl
  fuse := rfl
  bad := rfl
  wr := rfl
  coh := h
theorem zsg {s:ArrS} {d:Nat} (hdn:s.down=false) (hd:d < s.drv.length):flC s d=if miss s d then 6 else 0 := flC_of hdn hd
theorem zx7 {s:ArrS} {d:Nat} (hdn:s.down=false) (hd:d < s.drv.length):flS s d=if miss s d then s else fl1 s d := by
  have h := zsg hdn hd
  by_cases hm:miss s d=true
  · rw [if_pos hm] at h; rw [if_pos hm]
    unfold flS; rw [if_pos (by rw [h]; decide)]
  · rw [if_neg hm] at h; rw [if_neg hm]; exact flS_of h
theorem flushed:∀ {ds:List Nat} {s:ArrS},Coh s→s.down=false→(∀ d ∈ ds,d < s.drv.length)→Flushed s ds (flsS s ds)∧flsC s ds=if ds.any (fun d=>miss s d) then 6 else 0
  | [],s,hc,_,_=>⟨Flushed.none hc,rfl⟩
  | d::ds,s,hc,hdn,hds=>by
    have hd := hds d List.mem_cons_self
    have hC := zsg hdn hd
    have hS := zx7 hdn hd
    show Flushed s (d::ds) (flsS (flS s d) ds)∧(if flC s d=0 then flsC (flS s d) ds else flC s d)=_
    by_cases hm:miss s d=true
    · rw [if_pos hm] at hC hS
      rw [hS,hC]
      obtain ⟨h1, -⟩ := flushed (ds:=ds) hc hdn (fun e he=>hds e (List.mem_cons_of_mem _ he))
      refine ⟨{ h1 with dur := fun e a ha => ?_,pend := fun e a => ?_ },by simp [hm]⟩
      · rw [h1.dur e a ha]
        by_cases he:e=d
        · subst he; rw [if_neg (by simp [hm]),if_neg (by simp [hm])]
        · simp [he]
      · rw [h1.pend e a]
        by_cases he:e=d
        · subst he; rw [if_neg (by simp [hm]),if_neg (by simp [hm])]
        · simp [he]
    · have hm':miss s d=false := by simpa using hm
      rw [if_neg hm] at hC hS
      rw [hS,hC]
      have hmm:∀ e,miss (fl1 s d) e=miss s e := fun e=>zse hd
      obtain ⟨h1,h2⟩ := flushed (ds:=ds) (s:=fl1 s d) (hc.fl1 hd) hdn (fun e he=>by rw [zpy]; exact hds e (List.mem_cons_of_mem _ he))
      refine ⟨⟨by rw [h1.drv,zpy],fun e=>by rw [h1.now,zkw hd],fun e a ha => ?_,fun e a => ?_,fun e=>by rw [h1.miss,hmm],h1.down,h1.fuse,h1.bad,h1.wr,h1.coh⟩,?_⟩
      · rw [h1.dur e a (by rw [ziu hd]; exact ha),hmm,zt4 hd,zpz hc hd ha]
        by_cases he:e=d
        · subst he; simp [hm']
        · simp [he]
      · rw [h1.pend e a,hmm,zkx]
        by_cases he:e=d
        · subst he; simp [hm']
        · simp [he]
      · rw [if_pos rfl,h2,List.any_cons,hm',Bool.false_or]
        congr 1
        simp only [hmm]
theorem Flushed.size {s t:ArrS} {ds:List Nat} (h:Flushed s ds t) {d:Nat} : t.size d=s.size d := by rw [zdj,zdj,h.now]
theorem Flushed.inSz {ns:List Nat} {s t:ArrS} {ds:List Nat} (h:Flushed s ds t) (hs:InSz ns s):InSz ns t := ⟨by rw [h.drv]; exact hs.cnt,fun d hd=>by rw [h.size]; exact hs.size d hd,by rw [h.wr]; exact hs.wr⟩
theorem Flushed.nowAt {s t:ArrS} {ds:List Nat} (h:Flushed s ds t) {d a:Nat} : Go.Proofs.now t d a=Go.Proofs.now s d a := by unfold Go.Proofs.now; rw [h.now]
structure Missed (s:ArrS) (p:Nat→Bool) (t:ArrS):Prop where
  drv:t.drv.length=s.drv.length
  now:∀ d,nowL t d=nowL s d
  dur:∀ d,durL t d=durL s d
  log:t.log=s.log
  miss:∀ d,d < s.drv.length→miss t d=p d
  down:t.down=s.down
  fuse:t.fuse=s.fuse
  bad:t.bad=s.bad
  wr:t.writes=s.writes
theorem Missed.coh {s t:ArrS} {p:Nat→Bool} (h:Missed s p t) (hc:Coh s):Coh t where
  len d := by rw [h.now,h.dur]; exact hc.len d
  last d a ha := by
    have h1 := hc.last d a (by rw [zdj] at ha ⊢; rw [← h.now]; exact ha)
    unfold Go.Proofs.now Go.Proofs.dur pend at h1 ⊢
    rw [h.now,h.dur,h.log]; exact h1
  log r hr := by
    rw [h.log] at hr
    have := hc.log r hr
    rw [h.drv,zdj,h.now]; exact this
theorem Missed.size {s t:ArrS} {p:Nat→Bool} (h:Missed s p t) {d:Nat} : t.size d=s.size d := by rw [zdj,zdj,h.now]
theorem Missed.inSz {ns:List Nat} {s t:ArrS} {p:Nat→Bool} (h:Missed s p t) (hs:InSz ns s):InSz ns t := ⟨by rw [h.drv]; exact hs.cnt,fun d hd=>by rw [h.size]; exact hs.size d hd,by rw [h.wr]; exact hs.wr⟩
theorem Missed.self {s:ArrS} : Missed s (Go.Proofs.miss s) s := ⟨rfl,fun _=>rfl,fun _=>rfl,rfl,fun _ _=>rfl,rfl,rfl,rfl,rfl⟩
theorem smS_of {s:ArrS} {d:Nat} {b:Bool} (hd:d < s.drv.length):smS s d b = { s with drv := s.drv.set d { s.drv.getD d d0 with miss := b } } := by
  rw [smS,if_pos (show inR s (d:Int) from ⟨by omega,by omega⟩)]; rfl
theorem Missed.set {s t:ArrS} {p:Nat→Bool} (h:Missed s p t) {d:Nat} {b:Bool} (hd:d < s.drv.length):Missed s (fun e=>if e=d then b else p e) (smS t d b) := by
  have hd':d < t.drv.length := by rw [h.drv]; exact hd
  rw [smS_of hd']
  refine ⟨by simpa using h.drv,fun e => ?_,fun e => ?_,h.log,fun e he => ?_,h.down,h.fuse,h.bad,h.wr⟩
  · rw [← h.now]; unfold nowL; rw [zeu hd']; split
    · rename_i x; subst x; rfl
    · rfl
  · rw [← h.dur]; unfold durL; rw [zeu hd']; split
    · rename_i x; subst x; rfl
    · rfl
  · unfold Go.Proofs.miss; rw [zeu hd']; split
    · rfl
    · exact h.miss e he
end Go.Proofs
