/- MirrorFills, part 8 of the proof: PUp, PAll, PFlat0, PLog, PLogOps, PMir0, PMirL, PMirI, PMirR, PMirW, PMirF, PSpansA, PMirO, PMirO2, PKeep, POwn1, POwn2, POwn3, POwn4, POwn5. -/
import Derived.WalkKit
import Derived.Orders
import Derived.RangeFuncLeaves
import Derived.RangeFuncCalls
import Derived.TacticsIn
import Derived.Handy
import Derived.OrdersHeld
import Derived.OrdersIn
import Derived.Below
import Derived.OpenShut
import Derived.Deep.Slices
import Derived.Scope
import Derived.KernelRfl
import Derived.RangeFuncRecord
import Derived.ChangeKeysEq
import Derived.ProofKit
import Derived.ShutString
import Derived.ChangeOld
import Derived.Test.YtcfnikegnhlghaaGreatChecked
import Derived.Test.YtcfnikegnhlghaaGreatRows
import Derived.Test.YtcfnikegnhlghaaGreatZMirrorFills7
namespace Go.Proofs
open Go.VG
structure ArrOk (ns:List Nat) (K:Nat) (s:ArrS):Prop where
  sz:InSz ns s
  wr:s.writes≤K
  coh:Coh s
  bad:s.bad=[]
section
variable {ns:List Nat} {K d a:Nat} {s:ArrS} {v:UInt64}
theorem ArrOk.mono {K':Nat} (h:ArrOk ns K s) (hK:K≤K'):ArrOk ns K' s := { h with wr := Nat.le_trans h.wr hK }
theorem ArrOk.disk (h:ArrOk ns K s) (hd:d < ns.length):d < s.drv.length := by rw [h.sz.cnt]; exact hd
theorem ArrOk.sect (h:ArrOk ns K s) (hd:d < ns.length) (ha:a < ns.getD d 0):a < s.size d := by rw [h.sz.size d hd]; exact ha
theorem ArrOk.now_cand (h:ArrOk ns K s) (hd:d < ns.length) (ha:a < ns.getD d 0):now s d a ∈ cand s d a := by
  rw [← h.coh.last d a (h.sect hd ha)]; exact zu8
theorem ArrOk.chk (h:ArrOk ns K s) (hdn:s.down=false) (hd:d < ns.length) (ha:a < ns.getD d 0):cPow s=0∧cLoc s d=0∧cPla s d a=0∧cPre s d=(if miss s d then 6 else 0)∧cWho s d a=0 := by
  have hdd := h.disk hd
  have haa := h.sect hd ha
  refine ⟨by simp [cPow,hdn],?_,?_,?_,by simp [cWho,isBad,h.bad,lookM]⟩
  · rw [cLoc,if_pos (show inR s (d:Int) from ⟨by omega,by omega⟩)]
  · rw [cPla,zog hdd,if_pos (by omega)]
  · simp only [cPre,missI,Int.toNat_natCast,miss]; by_cases hh:(s.drv.getD d d0).miss=true <;> simp
theorem ArrOk.rdA (h:ArrOk ns K s) (hdn:s.down=false) (hd:d < ns.length) (ha:a < ns.getD d 0) (hm:miss s d=false):rdV s d a=now s d a∧rdC s d a=0 := by
  obtain ⟨h1,h2,h3,h4,h5⟩ := h.chk hdn hd ha
  rw [hm] at h4
  have hC:rdC s d a=0 := by simp [rdC,fz,h1,h2,h3,h4,h5]
  exact ⟨by rw [rdV,if_pos hC]; rfl,hC⟩
theorem ArrOk.rdM (h:ArrOk ns K s) (hdn:s.down=false) (hd:d < ns.length) (ha:a < ns.getD d 0) (hm:miss s d=true):rdC s d a=6 := by
  obtain ⟨h1,h2,h3,h4,h5⟩ := h.chk hdn hd ha
  rw [hm] at h4
  simp [rdC,fz,h1,h2,h3,h4]
structure Wrote (ns:List Nat) (K:Nat) (s:ArrS) (d a:Nat) (v:UInt64) (t:ArrS):Prop where
  ok:ArrOk ns (K + 1) t
  dn:t.down=false
  fuse:t.fuse=s.fuse - 1
  miss:∀ e,Go.Proofs.miss t e=Go.Proofs.miss s e
  now:∀ e b,Go.Proofs.now t e b=if d=e∧a=b then v else Go.Proofs.now s e b
  cand:∀ e b,Go.Proofs.cand t e b=if d=e∧a=b then Go.Proofs.cand s e b ++ [v] else Go.Proofs.cand s e b
structure Fell (ns:List Nat) (K:Nat) (s t:ArrS):Prop where
  ok:ArrOk ns K t
  dn:t.down=true
  miss:∀ e,Go.Proofs.miss t e=Go.Proofs.miss s e
  now:∀ e b,Go.Proofs.now t e b=Go.Proofs.now s e b
  cand:∀ e b,Go.Proofs.cand t e b=Go.Proofs.cand s e b
theorem ArrOk.wrA (h:ArrOk ns K s) (hK:K≤1000000) (hdn:s.down=false) (hd:d < ns.length) (ha:a < ns.getD d 0) (hm:miss s d=false) :
    (s.fuse≠1∧wrR s d a=0∧Wrote ns K s d a v (wrS s d a v))∨(s.fuse=1∧wrR s d a=5∧Fell ns K s (wrS s d a v)) := by
  obtain ⟨h1,h2,h3,h4,h5⟩ := h.chk hdn hd ha
  rw [hm] at h4
  have hdd := h.disk hd
  have haa := h.sect hd ha
  have hC:wrC s d a=0 := by simp [wrC,fz,h1,h2,h3,h4]
  have hC':¬ wrC s d a≠0 := fun x=>x hC
  by_cases hf:s.fuse=1
  · refine .inr ⟨hf,by rw [wrR,if_neg hC',if_pos hf],?_⟩
    rw [wrS,if_neg hC',if_pos hf]
    exact ⟨⟨⟨h.sz.cnt,h.sz.size,h.sz.wr⟩,h.wr,⟨h.coh.len,h.coh.last,h.coh.log⟩,h.bad⟩,rfl,fun _=>rfl,fun _ _=>rfl,fun _ _=>rfl⟩
  · refine .inl ⟨hf,by rw [wrR,if_neg hC',if_neg hf],?_⟩
    rw [wrS,if_neg hC',if_neg hf]
    have hbad:delM s.bad ((d:Int),(a:Int))=[] := by rw [h.bad]; rfl
    have hs':({ s with drv := zhu s (d:Int).toNat (a:Int).toNat v,bad := delM s.bad ((d:Int),(a:Int)),log := s.log ++ [⟨(d:Int).toNat,(a:Int).toNat,v⟩],fuse := s.fuse - 1,writes := s.writes + 1 } : ArrS) = { wr1 s d a v with bad := [],fuse := s.fuse - 1 } := by
      simp only [wr1,Int.toNat_natCast,hbad]
    rw [hs']
    have hcoh := h.coh.wr1 (v:=v) hdd haa
    refine ⟨⟨⟨by show (wr1 s _ _ _).drv.length=_; rw [zub]; exact h.sz.cnt,fun e he=>by show (wr1 s _ _ _).size e=_; rw [zsk hdd]; exact h.sz.size e he,by show s.writes + 1≤_; have := h.wr; omega⟩,by show s.writes + 1≤_; have := h.wr; omega,⟨hcoh.len,hcoh.last,hcoh.log⟩,rfl⟩,hdn,rfl,fun e => ?_,fun e b=>zyn hdd haa,fun e b => ?_⟩
    · show (((zhu s d a v).getD e d0)).miss=_
      unfold zhu Go.Proofs.miss; rw [zjj hdd]; split
      · rename_i x; subst x; rfl
      · rfl
    · show dur (wr1 s d a v) e b::pend (wr1 s d a v) e b=_
      rw [zyo hdd,zwp]; split <;> rfl
structure Flushed1 (ns:List Nat) (K:Nat) (s:ArrS) (d:Nat) (t:ArrS):Prop where
  ok:ArrOk ns K t
  dn:t.down=false
  fuse:t.fuse=s.fuse
  miss:∀ e,Go.Proofs.miss t e=Go.Proofs.miss s e
  now:∀ e b,Go.Proofs.now t e b=Go.Proofs.now s e b
  cand:∀ e b,e < ns.length→b < ns.getD e 0→Go.Proofs.cand t e b=if d=e then [Go.Proofs.now s e b] else Go.Proofs.cand s e b
theorem ArrOk.flA (h:ArrOk ns K s) (hdn:s.down=false) (hd:d < ns.length) (hm:miss s d=false):flC s d=0∧Flushed1 ns K s d (flS s d) := by
  have hdd := h.disk hd
  obtain ⟨h1,h2⟩ := zue (ds:=[d]) h.coh hdn (fun e he=>by rw [List.mem_singleton.1 he]; exact hdd)
  have hany:[d].any (fun d=>Go.Proofs.miss s d)=false := by simp [hm]
  rw [hany] at h2
  have h3:flC s d=0 := by
    have h4:(if flC s d=0 then (0:Int) else flC s d)=0 := h2
    by_cases h5:flC s d=0
    · exact h5
    · rwa [if_neg h5] at h4
  have h6:flsS s [d]=flS s d := rfl
  rw [h6] at h1
  refine ⟨h3,⟨⟨h1.inSz h.sz,by rw [h1.wr]; exact h.wr,h1.coh,by rw [h1.bad]; exact h.bad⟩,by rw [h1.down]; exact hdn,h1.fuse,h1.miss,fun e b=>h1.nowAt,fun e b he hb => ?_⟩⟩
  show Go.Proofs.dur _ _ _::Go.Proofs.pend _ _ _=_
  rw [h1.dur _ _ (h.sect he hb),h1.pend]
  by_cases e1:d=e
  · subst e1; rw [if_pos ⟨List.mem_singleton.2 rfl,hm⟩,if_pos ⟨List.mem_singleton.2 rfl,hm⟩,if_pos rfl]
  · rw [if_neg (fun x=>e1 (List.mem_singleton.1 x.1).symm),if_neg (fun x=>e1 (List.mem_singleton.1 x.1).symm),if_neg e1]
structure Restarted (ns:List Nat) (K:Nat) (s t:ArrS):Prop where
  ok:ArrOk ns K t
  dn:t.down=false
  fuse:t.fuse=0
  miss:∀ e,Go.Proofs.miss t e=Go.Proofs.miss s e
  now:∀ e b,e < ns.length→b < ns.getD e 0→Go.Proofs.now t e b ∈ Go.Proofs.cand s e b
  cand:∀ e b,Go.Proofs.cand t e b=[Go.Proofs.now t e b]
  unfl:t.log=[]
theorem ArrOk.rs (h:ArrOk ns K s) (ks:List Bool):Restarted ns K s (rsS s ks) where
  ok := ⟨⟨by rw [drv_rs]; exact h.sz.cnt,fun d hd=>by rw [z3r h.coh]; exact h.sz.size d hd,h.sz.wr⟩,h.wr,h.coh.rs,h.bad⟩
  dn := rfl
  fuse := rfl
  miss e := by unfold Go.Proofs.miss; rw [z3s]
  now e b he hb := by rw [zwt]; exact dur_rs h.coh (h.disk he) (h.sect he hb)
  cand e b := by
    show [dur (rsS s ks) e b]=_
    rw [zwt]
  unfl := rfl
theorem ArrOk.fuse (h:ArrOk ns K s) {m:Nat} : ArrOk ns K { s with fuse := m } := ⟨⟨h.sz.cnt,h.sz.size,h.sz.wr⟩,h.wr,⟨h.coh.len,h.coh.last,h.coh.log⟩,h.bad⟩
end
end Go.Proofs
namespace Go.Proofs
open Go.VG
section
variable {x y:Dvc} {s:ArrS} {at_:Int} {n:Nat}
theorem ztk {f:Nat→UInt64} (ha:0≤at_∧at_ + n≤1000000000) (hr:∀ i,i < n→x.rd s (at_ + i)=some (f i,0)):∀ (N i:Nat) (acc:List UInt64),n - i < N→i≤n→acc=(List.range i).map f →
    zht x at_ (n:Int) s N i acc=some (.inl ((List.range n).map f))
  | 0,_,_,h,_,_=>absurd h (by omega)
  | N + 1,i,acc,h,hi,he=>by
    show zgz _ _ _ _ _ _ _=_
    unfold zgz
    subst he
    by_cases hlt:i < n
    · rw [if_pos (by omega),grd_t (zdo (by omega)),hr i hlt]
      simp only [Option.bind_some]
      rw [if_neg (by simp),grd_t (zd5 (by simp; omega)),grd_t (zdy (by omega))]
      exact ztk ha hr N (i + 1) _ (by omega) (by omega) (by simp [List.range_succ])
    · rw [if_neg (by omega)]
      have:i=n := by omega
      rw [this]
theorem zzi {m:Int} {f:Nat→UInt64} (hs:x.size s=some m) (hm:m≤1000000000) (ha:0≤at_∧at_ + n≤m) (hr:∀ i,i < n→x.rd s (at_ + i)=some (f i,0)):zi1 x at_ (n:Int) s=some ((List.range n).map f,0) := by
  unfold zi1
  have hF := zbp
  generalize FUEL=N at hF ⊢
  rw [hs]; simp only [Option.bind_some]
  rw [zsi hm (by omega)]; simp only [Option.bind_some]
  rw [if_neg (by simp),ztk (by omega) hr N 0 [] (by omega) (by omega) (by simp)]; rfl
theorem zr4 {l:List UInt64} {st:Nat→ArrS} (ha:0≤at_∧at_ + l.length≤1000000000) (hw:∀ i,i < l.length→x.wr (st i) (at_ + i) (l.getD i 0)=some (0,st (i + 1))):∀ (N i:Nat),l.length - i < N→i≤l.length →
    zi4 x at_ l N (st i) i=some (.inl (st l.length))
  | 0,_,h,_=>absurd h (by omega)
  | N + 1,i,h,hi=>by
    show zig _ _ _ _ _ _=_
    unfold zig
    by_cases hlt:i < l.length
    · rw [if_pos (by omega),grd_t (zdo (by omega)),hw i hlt]
      simp only [Option.bind_some]
      rw [if_neg (by simp)]
      exact zr4 ha hw N (i + 1) (by omega) (by omega)
    · rw [if_neg (by omega)]
      have:i=l.length := by omega
      rw [this]
theorem zx6 {m:Int} {l:List UInt64} {st:Nat→ArrS} (hs:x.size (st 0)=some m) (hm:m≤1000000000) (ha:0≤at_∧at_ + l.length≤m) (hw:∀ i,i < l.length→x.wr (st i) (at_ + i) (l.getD i 0)=some (0,st (i + 1))) :
    zj5 x at_ l (st 0)=some (0,st l.length) := by
  unfold zj5
  have hF := zbp
  generalize FUEL=N at hF ⊢
  rw [hs]; simp only [Option.bind_some]
  rw [zsi hm (by omega)]; simp only [Option.bind_some]
  rw [if_neg (by simp),zr4 (by omega) hw N 0 (by omega) (by omega)]; rfl
end
end Go.Proofs
namespace Go.Proofs
open Go.VG
theorem zm5 {α:Type} {f:Nat→α} {n i:Nat} {d:α} (h:i < n):((List.range n).map f).getD i d=f i := by simp [List.getD,h]
def lensN (ims:List (List UInt64)):List Nat := ims.map List.length
theorem zzj {ims:List (List UInt64)} {i:Nat} : (lensN ims).getD i 0=(ims.getD i []).length := by
  simp only [lensN,List.getD,List.getElem?_map]; cases ims[i]? <;> rfl
@[simp] theorem z4w {ims:List (List UInt64)} : (lensN ims).length=ims.length := by simp [lensN]
theorem zwv {ims:List (List UInt64)} : InSz (lensN ims) (mkS ims) := ⟨by simp,fun d _=>by rw [zf0,z2c,zzj],Nat.zero_le _⟩
end Go.Proofs
namespace Go.Proofs
open Go.VG
abbrev xL (d m:Nat):Dvc := Dvc.span (d:Int) ((0:Nat):Int) (m:Int)
def headL (R:Nat):UInt64 := (5498691735368237056:UInt64) + zh2 (R:Int)
def nW (R:Nat):Nat := (R + 63) / 64
theorem wordsI {r:Int} : zfv r=some (if r < 1∨1048576 < r then 0 else 1 + (r + 63) / 64) := by unfold zfv; split <;> rfl
theorem ztl {R:Nat} (hR:1≤R∧R≤1048576):zfv (R:Int)=some (((1 + nW R:Nat):Int)) := by
  rw [wordsI,if_neg (by omega)]; exact congrArg some (by unfold nW; omega)
section
variable {ns:List Nat} {K d m:Nat} {s:ArrS}
theorem z0w (hd:d < ns.length) (hm:ns.getD d 0=m) (hb:m≤1000000) (h:ArrOk ns K s) (hdn:s.down=false) (hms:miss s d=false) {k:Nat} (hk:k < m):(xL d m).rd s (k:Int)=some (now s d k,0) := by
  obtain ⟨h1,h2⟩ := h.rdA hdn hd (a:=k) (by rw [hm]; exact hk) hms
  rw [span_rd (by omega) (by omega),if_pos (by omega)]
  have e:((0:Nat):Int) + (k:Int)=((k:Nat):Int) := by omega
  rw [e,h1,h2]
theorem ztm (_hd:d < ns.length) (hm:ns.getD d 0=m) (hb:m≤1000000) (h:ArrOk ns K s) (hK:K≤1000000) {k:Nat} {v:UInt64} (hk:k < m):(xL d m).wr s (k:Int) v=some (wrR s d k,wrS s d k v) := by
  rw [span_wr (by omega) (by omega) (by have := h.wr; omega),if_pos (by omega)]
  have e:((0:Nat):Int) + (k:Int)=((k:Nat):Int) := by omega
  rw [e]
theorem ztn (_hd:d < ns.length) (_hm:ns.getD d 0=m) (_hb:m≤1000000) (h:ArrOk ns K s) (hK:K≤1000000):(xL d m).fl s=some (flC s d,flS s d) := zyl (by have := h.wr; omega)
def zs (d:Nat) (s:ArrS):Nat→ArrS
  | 0=>s
  | i + 1=>wrS (zs d s i) d ((1 + i:Nat):Int) 0
structure Zd (ns:List Nat) (K d:Nat) (s:ArrS) (i:Nat) (t:ArrS):Prop where
  ok:ArrOk ns (K + i) t
  dn:t.down=false
  fuse:t.fuse=0
  miss:∀ e,Go.Proofs.miss t e=Go.Proofs.miss s e
  now:∀ e b,Go.Proofs.now t e b=if e=d∧1≤b∧b < 1 + i then 0 else Go.Proofs.now s e b
  other:∀ e b,e≠d→cand t e b=cand s e b
theorem zs_ok (hd:d < ns.length) (hm:ns.getD d 0=m) (hb:m≤1000000) (h:ArrOk ns K s) (hdn:s.down=false) (hms:miss s d=false) (hf:s.fuse=0):∀ {i:Nat},1 + i≤m→K + i≤1000000→Zd ns K d s i (zs d s i)
  | 0,_,_=>⟨h,hdn,hf,fun _=>rfl,fun e b=>by rw [if_neg (by omega)]; rfl,fun _ _ _=>rfl⟩
  | i + 1,hi,hK=>by
    have hz := zs_ok hd hm hb h hdn hms hf (i:=i) (by omega) (by omega)
    rcases hz.ok.wrA (d:=d) (a:=1 + i) (v:=0) (by omega) hz.dn hd (by rw [hm]; omega) (by rw [hz.miss]; exact hms) with ⟨h1,h2,h3⟩ | ⟨h1, -⟩
    · refine ⟨h3.ok,h3.dn,by show (wrS _ _ _ _).fuse=0; rw [h3.fuse,hz.fuse],fun e=>by show miss (wrS _ _ _ _) e=_; rw [h3.miss,hz.miss],fun e b => ?_,fun e b he => ?_⟩
      · show now (wrS _ _ _ _) e b=_
        rw [h3.now,hz.now]
        by_cases h4:d=e∧1 + i=b
        · rw [if_pos h4,if_pos (by omega)]
        · rw [if_neg h4]
          by_cases h5:e=d∧1≤b∧b < 1 + i
          · rw [if_pos h5,if_pos (by omega)]
          · rw [if_neg h5,if_neg (by omega)]
      · show cand (wrS _ _ _ _) e b=_
        rw [h3.cand,if_neg (fun x=>he x.1.symm),hz.other e b he]
    · rw [hz.fuse] at h1; cases h1
structure Fresh (ns:List Nat) (K d m R:Nat) (s t:ArrS):Prop where
  ok:ArrOk ns K t
  dn:t.down=false
  fuse:t.fuse=0
  miss:∀ e,Go.Proofs.miss t e=Go.Proofs.miss s e
  now:∀ b,b < m→Go.Proofs.now t d b=if b=0 then headL R else if b < 1 + nW R then 0 else Go.Proofs.now s d b
  cand:∀ b,b < m→Go.Proofs.cand t d b=[Go.Proofs.now t d b]
  other:∀ e b,e≠d→e < ns.length→b < ns.getD e 0→Go.Proofs.now t e b=Go.Proofs.now s e b∧Go.Proofs.cand t e b=Go.Proofs.cand s e b
  last:∃ u,Coh u∧u.drv.length=ns.length∧flC u d=0∧t=flS u d
theorem zww (_hd:d < ns.length) (_hm:ns.getD d 0=m) (_hb:m≤1000000) {R:Nat} (hR:1≤R∧R≤1048576):ziy (xL d m) (R:Int) s=some (if m < 1 + nW R then 3 else 0) := by
  unfold ziy
  rw [ztl hR]; simp only [Option.bind_some]
  rw [if_neg (by omega),zne]; simp only [Option.bind_some]
  by_cases h:m < 1 + nW R
  · rw [if_pos (by omega),if_pos h]
  · rw [if_neg (by omega),if_neg h]
theorem z0x (hd:d < ns.length) (hm:ns.getD d 0=m) (hb:m≤1000000) (h:ArrOk ns K s) (hdn:s.down=false) (hms:miss s d=false) (hf:s.fuse=0) {R:Nat} (hR:1≤R∧R≤1048576) (hW:1 + nW R≤m) (hK:K + m≤1000000) :
    ∃ t,zim (xL d m) (R:Int) s=some (0,t)∧Fresh ns (K + nW R + 1) d m R s t := by
  unfold zim
  rw [zww hd hm hb hR,if_neg (by omega)]; simp only [Option.bind_some]
  rw [if_neg (by decide),ztl hR]; simp only [Option.bind_some]
  have hn16:nW R≤16384 := by unfold nW; omega
  have e1:((1 + nW R:Nat):Int) - 1=((nW R:Nat):Int) := by omega
  rw [e1,grd_t (zdo (by omega)),grd_t (decide_eq_true ⟨by omega,by omega⟩),Int.toNat_natCast]
  have hz := fun i (hi:i≤nW R)=>zs_ok hd hm hb h hdn hms hf (i:=i) (by omega) (by omega)
  have hwa := zx6 (x:=xL d m) (at_:=1) (m:=(m:Int)) (l:=List.replicate (nW R) 0) (st:=zs d s) rfl (by omega) ⟨by omega,by rw [List.length_replicate]; omega⟩ (fun i hi=>by
    rw [List.length_replicate] at hi
    have e2:(1:Int) + (i:Int)=((1 + i:Nat):Int) := by omega
    have hzi := hz i (by omega)
    rw [e2,ztm hd hm hb hzi.ok (by omega) (by omega)]
    have e3:(List.replicate (nW R) (0:UInt64)).getD i 0=0 := by simp [List.getD,hi]
    rw [e3]
    rcases hzi.ok.wrA (d:=d) (a:=1 + i) (v:=0) (by omega) hzi.dn hd (by rw [hm]; omega) (by rw [hzi.miss]; exact hms) with ⟨-,h2, -⟩ | ⟨h1, -⟩
    · rw [h2]; rfl
    · rw [hzi.fuse] at h1; cases h1)
  rw [List.length_replicate] at hwa
  have hz0:zs d s 0=s := rfl
  rw [hz0] at hwa
  rw [hwa]; simp only [Option.bind_some]
  have hzn := hz (nW R) (Nat.le_refl _)
  rw [if_neg (by decide),ztn hd hm hb hzn.ok (by omega)]; simp only [Option.bind_some]
  obtain ⟨f1,f2⟩ := hzn.ok.flA (d:=d) hzn.dn hd (by rw [hzn.miss]; exact hms)
  rw [if_neg (by rw [f1]; decide)]
  have e0:(0:Int)=((0:Nat):Int) := rfl
  rw [e0,ztm hd hm hb f2.ok (by omega) (by omega)]; simp only [Option.bind_some]
  rcases f2.ok.wrA (d:=d) (a:=0) (v:=(5498691735368237056:UInt64) + zh2 (R:Int)) (by omega) f2.dn hd (by rw [hm]; omega) (by rw [f2.miss,hzn.miss]; exact hms) with ⟨-,g2,g3⟩ | ⟨g1, -⟩
  · rw [g2,if_neg (by decide),ztn hd hm hb g3.ok (by omega)]; simp only [Option.bind_some]
    obtain ⟨k1,k2⟩ := g3.ok.flA (d:=d) g3.dn hd (by rw [g3.miss,f2.miss,hzn.miss]; exact hms)
    rw [k1]
    refine ⟨_,rfl,k2.ok,k2.dn,by rw [k2.fuse,g3.fuse,f2.fuse,hzn.fuse],fun e=>by rw [k2.miss,g3.miss,f2.miss,hzn.miss],fun b hbm => ?_,fun b hbm => ?_,fun e b he hel hbl => ?_,_,g3.ok.coh,g3.ok.sz.cnt,k1,rfl⟩
    · rw [k2.now,g3.now,f2.now,hzn.now]
      by_cases b0:b=0
      · subst b0; rw [if_pos ⟨rfl,rfl⟩,if_pos rfl]; rfl
      · rw [if_neg (fun x=>b0 x.2.symm),if_neg b0]
        by_cases b1:b < 1 + nW R
        · rw [if_pos ⟨rfl,by omega,b1⟩,if_pos b1]
        · rw [if_neg (fun x=>b1 x.2.2),if_neg b1]
    · rw [k2.cand d b hd (by rw [hm]; exact hbm),if_pos rfl,k2.now]
    · refine ⟨?_,?_⟩
      · rw [k2.now,g3.now,f2.now,hzn.now,if_neg (fun x=>he x.1.symm),if_neg (fun x=>he x.1)]
      · rw [k2.cand e b hel hbl,if_neg (fun x=>he x.symm),g3.cand,if_neg (fun x=>he x.1.symm),f2.cand e b hel hbl,if_neg (fun x=>he x.symm),hzn.other e b he]
  · rw [f2.fuse,hzn.fuse] at g1; cases g1
def openL (x:Dvc) (R:Nat) (f:Nat→UInt64):LogS := ⟨x,(R:Int),(List.range (nW R)).map fun i=>f (1 + i),[]⟩
theorem z3u (hd:d < ns.length) (hm:ns.getD d 0=m) (hb:m≤1000000) (h:ArrOk ns K s) (hdn:s.down=false) (hms:miss s d=false) {R:Nat} (hR:1≤R∧R≤1048576) (hW:1 + nW R≤m) :
    zin (xL d m) (R:Int) s=some (if now s d 0=headL R then (some (openL (xL d m) R (now s d)),0) else (none,2)) := by
  unfold zin
  rw [zww hd hm hb hR,if_neg (by omega)]; simp only [Option.bind_some]
  rw [if_neg (by decide),ztl hR]; simp only [Option.bind_some]
  rw [zzi (x:=xL d m) (at_:=0) (m:=(m:Int)) (f:=now s d) rfl (by omega) ⟨by omega,by omega⟩ (fun i hi=>by
    have e:(0:Int) + (i:Int)=((i:Nat):Int) := by omega
    rw [e,z0w hd hm hb h hdn hms (by omega)])]
  simp only [Option.bind_some]
  have hl:((List.range (1 + nW R)).map (now s d)).length=1 + nW R := by simp
  have e0:((List.range (1 + nW R)).map (now s d)).getD 0 0=now s d 0 := zm5 (by omega)
  rw [if_neg (by decide),grd_t (decide_eq_true (by rw [hl]; omega)),e0]
  by_cases hh:now s d 0=headL R
  · rw [if_neg (fun x=>x hh),if_pos hh,grd_t (decide_eq_true ⟨by rw [hl]; omega,Nat.le_refl _⟩),List.take_length]
    have e2:((List.range (1 + nW R)).map (now s d)).drop 1=(List.range (nW R)).map fun i=>now s d (1 + i) := by
      apply List.ext_getElem (by simp)
      intro i h1 h2
      simp [Nat.add_comm]
    rw [e2]; rfl
  · rw [if_pos (show now s d 0≠(5498691735368237056:UInt64) + zh2 (R:Int) from hh),if_neg hh]
end
def zhz (l:List UInt64) (n:Nat):List Int := ((List.range n).filter fun r=>bitR l r).map fun r=>((r:Nat):Int)
theorem zx7 {l:List UInt64} {n:Nat} : zhz l (n + 1)=zhz l n ++ if bitR l n then [((n:Nat):Int)] else [] := by
  unfold zhz
  rw [List.range_succ,List.filter_append,List.map_append]
  congr 1
  by_cases h:bitR l n=true <;> simp [h]
theorem zq3 {l:List UInt64} {n:Nat} : (zhz l n).length≤n := by
  unfold zhz
  rw [List.length_map]
  exact Nat.le_trans (List.length_filter_le _ _) (by simp)
theorem zzk {l:LogS} {R:Nat} {s:ArrS} {r:Int} (hl:l.regions=(R:Int)) (hn:R≤64 * l.bits.length) (hR:R≤1048576):zhw l r s=some (decide (0≤r∧r < (R:Int)) && bitR l.bits r.toNat) := by
  unfold zhw
  rw [hl]
  by_cases h:0≤r∧r < (R:Int)
  · obtain ⟨k,rfl⟩ := Int.eq_ofNat_of_zero_le h.1
    rw [if_neg (by omega),z3o (by omega) (by omega)]
    simp only [Option.bind_some]
    rw [decide_eq_true h,Bool.true_and,Int.toNat_natCast]
  · rw [if_pos (by omega),decide_eq_false h,Bool.false_and]
theorem zwx {l:LogS} {R:Nat} {s:ArrS} (hl:l.regions=(R:Int)) (hn:R≤64 * l.bits.length) (hR:R≤1048576):∀ (N i:Nat),R - i < N→i≤R→zhs l s N (zhz l.bits i) i=some (zhz l.bits R)
  | 0,_,h,_=>absurd h (by omega)
  | N + 1,i,h,hi=>by
    show zg0 _ _ _ _ _=_
    unfold zg0
    rw [hl]
    by_cases hlt:i < R
    · have hrec := zwx hl hn hR (s:=s) N (i + 1) (by omega) (by omega)
      rw [zx7] at hrec
      rw [if_pos (by omega),zzk hl hn hR]; simp only [Option.bind_some]
      rw [decide_eq_true (⟨by omega,by omega⟩:0≤(i:Int)∧(i:Int) < (R:Int)),Bool.true_and,Int.toNat_natCast]
      have hle := @zq3 l.bits i
      by_cases hb:bitR l.bits i=true
      · rw [if_pos hb] at hrec
        rw [if_pos hb,grd_t (zd5 (by omega)),grd_t (zdy (by omega)),hrec]
      · rw [if_neg hb,List.append_nil] at hrec
        rw [if_neg hb,grd_t (zdy (by omega)),hrec]
    · rw [if_neg (by omega)]
      have:i=R := by omega
      rw [this]
theorem zwy {l:LogS} {R:Nat} {s:ArrS} (hl:l.regions=(R:Int)) (hn:R≤64 * l.bits.length) (hR:R≤1048576):zho l s=some (zhz l.bits R) := by
  unfold zho
  have hF := zbp
  have h := zwx hl hn hR (s:=s) FUEL 0 (by omega) (by omega)
  have e:zhz l.bits 0=[] := rfl
  rw [e] at h
  rw [h]; rfl
end Go.Proofs
namespace Go.Proofs
open Go.VG
structure LogOk (d m R:Nat) (l:LogS):Prop where
  x:l.x=xL d m
  reg:l.regions=(R:Int)
  len:l.bits.length=nW R
  nd:(l.durable.map (·.1)).Nodup
section
variable {ns:List Nat} {K d m R:Nat} {s:ArrS} {l:LogS}
theorem nW_lt {r:Nat} (hr:r < R):r / 64 < nW R := by unfold nW; omega
theorem zwz {r:Nat} (hl:LogOk d m R l) (h:r < R) (hdur:(lookM l.durable (r:Int)).isSome=true):zd4 l (r:Int) s=some (0,l,s) := by
  unfold zd4
  rw [hl.reg,if_neg (by omega),if_pos hdur]
theorem zto (hd:d < ns.length) (hm:ns.getD d 0=m) (hb:m≤1000000) (hl:LogOk d m R l) (h:ArrOk ns K s) (hK:K≤1000000) {r:Nat} (hr:r < R) (hR:R≤1048576) (hW:1 + nW R≤m) {is keep:Bool} : zib l (r:Int) is keep s =
    some (if wrR s d ((1 + r / 64:Nat):Int)=0∨keep=true then (wrR s d ((1 + r / 64:Nat):Int), { l with bits := setR l.bits r is },wrS s d ((1 + r / 64:Nat):Int) ((setR l.bits r is).getD (r / 64) 0)) else (wrR s d ((1 + r / 64:Nat):Int),l,wrS s d ((1 + r / 64:Nat):Int) ((setR l.bits r is).getD (r / 64) 0))) := by
  unfold zib
  have hw := nW_lt hr
  have hn:nW R≤16384 := by unfold nW; omega
  have hlen := hl.len
  rw [zze (by omega) (by omega) (by omega)]; simp only [Option.bind_some]
  have e:(1:Int) + ((r / 64:Nat):Int)=((1 + r / 64:Nat):Int) := by omega
  rw [if_neg (by decide),div64 (by omega),e,grd_t (zdo (by omega)),grd_t (decide_eq_true ⟨by omega,by rw [znc]; omega⟩),Int.toNat_natCast,hl.x,ztm hd hm hb h hK (by omega)]
  simp only [Option.bind_some]
  by_cases hc:wrR s d ((1 + r / 64:Nat):Int)=0∨keep=true
  · rw [if_pos hc,if_pos hc]
  · rw [if_neg hc,if_neg hc]
theorem z2g (hd:d < ns.length) (hm:ns.getD d 0=m) (hb:m≤1000000) (hl:LogOk d m R l) (h:ArrOk ns K s) (hdn:s.down=false) (hms:miss s d=false) (hK:K < 1000000) {r:Nat} (hr:r < R) (hR:R≤1048576) (hW:1 + nW R≤m) (hdur:(lookM l.durable (r:Int)).isSome=false) :
    (s.fuse≠1 ∧ ∃ u t,zd4 l (r:Int) s=some (0, { l with bits := setR l.bits r true,durable := setM l.durable (r:Int) () },t)∧Wrote ns K s d (1 + r / 64) ((setR l.bits r true).getD (r / 64) 0) u∧Flushed1 ns (K + 1) u d t) ∨
    (s.fuse=1 ∧ ∃ t,zd4 l (r:Int) s=some (5, { l with bits := setR l.bits r true },t)∧Fell ns K s t) := by
  have hw := nW_lt hr
  unfold zd4
  rw [if_neg (by rw [hl.reg]; omega),if_neg (by rw [hdur]; decide),zto hd hm hb hl h (by omega) hr hR hW,if_pos (.inr rfl)]
  simp only [Option.bind_some]
  rcases h.wrA (d:=d) (a:=1 + r / 64) (v:=(setR l.bits r true).getD (r / 64) 0) (by omega) hdn hd (by rw [hm]; omega) hms with ⟨h1,h2,h3⟩ | ⟨h1,h2,h3⟩
  · obtain ⟨k1,k2⟩ := h3.ok.flA (d:=d) h3.dn hd (by rw [h3.miss]; exact hms)
    refine .inl ⟨h1,_,_,?_,h3,k2⟩
    rw [h2,if_neg (by decide),hl.x,ztn hd hm hb h3.ok (by omega)]; simp only [Option.bind_some]
    rw [k1,if_neg (by decide)]
  · refine .inr ⟨h1,_,?_,h3⟩
    rw [h2,if_pos (by decide)]
theorem z0y (hd:d < ns.length) (hm:ns.getD d 0=m) (hb:m≤1000000) (hl:LogOk d m R l) (h:ArrOk ns K s) (hdn:s.down=false) (hms:miss s d=false) (hK:K < 1000000) {r:Nat} (hr:r < R) (hR:R≤1048576) (hW:1 + nW R≤m) :
    (s.fuse≠1 ∧ ∃ t,zeo l (r:Int) s=some (0, { l with bits := setR l.bits r false,durable := delM l.durable (r:Int) },t)∧Wrote ns K s d (1 + r / 64) ((setR l.bits r false).getD (r / 64) 0) t) ∨
    (s.fuse=1 ∧ ∃ t,zeo l (r:Int) s=some (5, { l with durable := delM l.durable (r:Int) },t)∧Fell ns K s t) := by
  have hw := nW_lt hr
  unfold zeo
  have hl':LogOk d m R { l with durable := delM l.durable (r:Int) } := ⟨hl.x,hl.reg,hl.len,znq _ _ hl.nd⟩
  rw [if_neg (by rw [hl.reg]; omega),zto hd hm hb hl' h (by omega) hr hR hW]
  rcases h.wrA (d:=d) (a:=1 + r / 64) (v:=(setR l.bits r false).getD (r / 64) 0) (by omega) hdn hd (by rw [hm]; omega) hms with ⟨h1,h2,h3⟩ | ⟨h1,h2,h3⟩
  · refine .inl ⟨h1,_,?_,h3⟩
    rw [h2,if_pos (.inl rfl)]; rfl
  · refine .inr ⟨h1,_,?_,h3⟩
    rw [h2,if_neg (by decide)]; rfl
end
end Go.Proofs
namespace Go.Proofs
open Go.VG
structure MC where
  L:Nat
  sz:Nat
  rg:Nat
  lg:Bool
  hL:2≤L∧L≤3
  hs:1≤sz∧sz≤12
  hr:1≤rg∧rg≤4
def MC.ns (C:MC):List Nat := List.replicate C.L C.sz ++ [3]
def MC.R (C:MC):Nat := (C.sz - 1) / C.rg + 1
section
variable {C:MC} {K a i:Nat} {s:ArrS} {v:UInt64}
theorem MC.len:C.ns.length=C.L + 1 := by simp [MC.ns]
theorem MC.leg (h:i < C.L):C.ns.getD i 0=C.sz := by
  unfold MC.ns
  simp only [List.getD,List.getElem?_append,List.length_replicate,h,if_true,List.getElem?_replicate]; rfl
theorem MC.log:C.ns.getD C.L 0=3 := by
  unfold MC.ns
  simp [List.getD]
theorem MC.hR:1≤C.R∧C.R≤12 := by
  have h1 := C.hs
  have h2:(C.sz - 1) / C.rg≤C.sz - 1 := Nat.div_le_self _ _
  unfold MC.R
  generalize (C.sz - 1) / C.rg=q at h2
  omega
theorem MC.reg (h:a < C.sz):a / C.rg < C.R := by
  have h2:a / C.rg≤(C.sz - 1) / C.rg := Nat.div_le_div_right (by omega)
  unfold MC.R
  exact Nat.lt_succ_of_le h2
theorem ArrOk.fzM (h:ArrOk C.ns K s) (hdn:s.down=false) (hi:i < C.ns.length) (ha:a < C.ns.getD i 0) (hm:miss s i=true):wrC s i a=6∧flC s i=6 := by
  obtain ⟨h1,h2,h3,h4,h5⟩ := h.chk hdn hi ha
  rw [hm] at h4
  exact ⟨by simp [wrC,fz,h1,h2,h3,h4],by simp [flC,fz,h1,h2,h4]⟩
theorem zw0 (h:ArrOk C.ns K s) (hdn:s.down=false) (hi:i < C.L) (ha:a < C.sz) (hm:miss s i=false):(xL i C.sz).rd s (a:Int)=some (now s i a,0) :=
  z0w (by rw [MC.len]; omega) (MC.leg hi) (by have := C.hs; omega) h hdn hm ha
theorem zyr (h:ArrOk C.ns K s) (hdn:s.down=false) (hi:i < C.L) (ha:a < C.sz) (hm:miss s i=true):∃ w,(xL i C.sz).rd s (a:Int)=some (w,6) := by
  have h1 := h.rdM (d:=i) (a:=a) hdn (by rw [MC.len]; omega) (by rw [MC.leg hi]; exact ha) hm
  have h2 := C.hs
  rw [span_rd (by omega) (by omega),if_pos (by omega)]
  have e:((0:Nat):Int) + (a:Int)=((a:Nat):Int) := by omega
  rw [e,h1]; exact ⟨_,rfl⟩
theorem zoh (h:ArrOk C.ns K s) (hK:K≤1000000) (hi:i < C.L) (ha:a < C.sz):(xL i C.sz).wr s (a:Int) v=some (wrR s i a,wrS s i a v) :=
  ztm (by rw [MC.len]; omega) (MC.leg hi) (by have := C.hs; omega) h hK ha
theorem wrM (h:ArrOk C.ns K s) (hdn:s.down=false) (hi:i < C.ns.length) (ha:a < C.ns.getD i 0) (hm:miss s i=true):wrR s i a=6∧wrS s i a v=s := by
  have h1 := (h.fzM hdn hi ha hm).1
  refine ⟨?_,?_⟩
  · unfold wrR; rw [h1,if_pos (by decide)]
  · unfold wrS; rw [if_pos (by rw [h1]; decide)]
theorem z3v (h:ArrOk C.ns K s) (hdn:s.down=false) (hK:K≤1000000) (hi:i < C.L) (ha:a < C.sz) (hm:miss s i=true):(xL i C.sz).wr s (a:Int) v=some (6,s) := by
  obtain ⟨h1,h2⟩ := wrM (v:=v) h hdn (by rw [MC.len]; omega:i < C.ns.length) (by rw [MC.leg hi]; exact ha) hm
  rw [zoh h hK hi ha,h1,h2]
theorem zq4 (h:ArrOk C.ns K s) (hK:K≤1000000) (hi:i < C.L):(xL i C.sz).fl s=some (flC s i,flS s i) :=
  ztn (by rw [MC.len]; omega) (MC.leg hi) (by have := C.hs; omega) h hK
theorem z3w (h:ArrOk C.ns K s) (hdn:s.down=false) (hK:K≤1000000) (hi:i < C.L) (hm:miss s i=true):(xL i C.sz).fl s=some (6,s) := by
  have h1 := (h.fzM hdn (by rw [MC.len]; omega:i < C.ns.length) (a:=0) (by rw [MC.leg hi]; have := C.hs; omega) hm).2
  rw [zq4 h hK hi,h1,zyg (by rw [h1]; decide)]
end
def failM (m:MirS) (i:Nat):MirS := { m with legs := m.legs.set i { m.legs.getD i mleg_x0 with state := 1 } }
abbrev stM (m:MirS) (i:Nat):Int := (m.legs.getD i mleg_x0).state
section
variable {m:MirS} {s:ArrS} {i j:Nat} {e:Int}
theorem znf {l:List mlegS} {i j:Nat} {x:mlegS} (h:i < l.length):(l.set i x).getD j mleg_x0=if j=i then x else l.getD j mleg_x0 := by
  simp only [List.getD,List.getElem?_set]
  by_cases e:i=j
  · subst e; simp [h]
  · rw [if_neg e,if_neg (fun x=>e x.symm)]
theorem zu9:(failM m i).legs.length=m.legs.length := by simp [failM]
theorem zw1 (h:i < m.legs.length):(failM m i).legs.getD j mleg_x0=if j=i then { m.legs.getD i mleg_x0 with state := 1 } else m.legs.getD j mleg_x0 := znf h
theorem zlg (h:e=0∨e=5) {k:Int} : zbg m k e s=some (e,m) := by unfold zbg; rw [if_pos h]
theorem zw2 (h0:e≠0) (h5:e≠5) (hi:i < m.legs.length) (hst:stM m i=0):zbg m ((i:Nat):Int) e s=some (0,failM m i) := by
  unfold zbg
  have hg:decide (0≤((i:Nat):Int)∧((i:Nat):Int) < (m.legs.length:Int))=true := decide_eq_true ⟨by omega,by omega⟩
  rw [if_neg (by rintro (h | h); exact h0 h; exact h5 h),if_neg (by omega),grd_t hg,grd_t hg,Int.toNat_natCast]
  unfold stM at hst
  rw [if_neg (by rw [hst]; decide),grd_t hg]; rfl
theorem zw3 (h0:e≠0) (h5:e≠5):zbg m ((m.legs.length:Nat):Int) e s=some (0, { m with logState := 1 }) := by
  unfold zbg
  rw [if_neg (by rintro (h | h); exact h0 h; exact h5 h),if_pos rfl]
def zlt (m:MirS) (n:Nat):List Int := ((List.range n).filter fun i=>decide (stM m i=1)).map fun i=>((i:Nat):Int)
def zdv (m:MirS):List Int := zlt m m.legs.length ++ if m.hasLog=true∧m.logState=1 then [((m.legs.length:Nat):Int)] else []
theorem zx8 {n:Nat} : zlt m (n + 1)=zlt m n ++ if stM m n=1 then [((n:Nat):Int)] else [] := by
  unfold zlt
  rw [List.range_succ,List.filter_append,List.map_append]
  congr 1
  by_cases h:stM m n=1 <;> simp [h]
theorem zq5 {n:Nat} : (zlt m n).length≤n := by
  unfold zlt
  rw [List.length_map]
  exact Nat.le_trans (List.length_filter_le _ _) (by simp)
theorem zva (hl:m.legs.length≤6):∀ (N i:Nat),m.legs.length - i < N→i≤m.legs.length→zhg m N i (zlt m i)=some (zlt m m.legs.length)
  | 0,_,h,_=>absurd h (by omega)
  | N + 1,i,h,hi=>by
    show zgp _ _ _ _=_
    unfold zgp
    by_cases hlt:i < m.legs.length
    · have hrec := zva hl N (i + 1) (by omega) (by omega)
      rw [zx8] at hrec
      have hle := @zq5 m i
      rw [if_pos (by omega)]
      by_cases hb:stM m i=1
      · rw [if_pos hb] at hrec
        rw [if_pos hb,grd_t (zd5 (by omega)),hrec]
      · rw [if_neg hb,List.append_nil] at hrec
        rw [if_neg hb,hrec]
    · rw [if_neg (by omega)]
      have:i=m.legs.length := by omega
      rw [this]
theorem zvb (hl:m.legs.length≤6):zf3 m s=some (zdv m) := by
  unfold zf3
  have hF := zbp
  have h := zva hl FUEL 0 (by omega) (by omega)
  have e:zlt m 0=[] := rfl
  rw [e] at h
  rw [h]; simp only [Option.bind_some]
  have hle := @zq5 m m.legs.length
  unfold zdv
  split
  · rw [grd_t (zd5 (by omega))]
  · rw [List.append_nil]
theorem mem_failedL {k:Int} : k ∈ zdv m↔(∃ i:Nat,i < m.legs.length∧stM m i=1∧k=i)∨(m.hasLog=true∧m.logState=1∧k=m.legs.length) := by
  unfold zdv zlt
  rw [List.mem_append,List.mem_map]
  constructor
  · rintro (⟨i,hi,rfl⟩ | h)
    · rw [List.mem_filter,List.mem_range] at hi
      exact .inl ⟨i,hi.1,of_decide_eq_true hi.2,rfl⟩
    · split at h
      · rename_i h1; exact .inr ⟨h1.1,h1.2,List.mem_singleton.1 h⟩
      · cases h
  · rintro (⟨i,hi,h1,rfl⟩ | ⟨h1,h2,rfl⟩)
    · exact .inl ⟨i,List.mem_filter.2 ⟨List.mem_range.2 hi,decide_eq_true h1⟩,rfl⟩
    · rw [if_pos ⟨h1,h2⟩]; exact .inr (List.mem_singleton.2 rfl)
structure NF (m:MirS):Prop where
  leg:∀ i,i < m.legs.length→stM m i≠1
  log:¬ (m.hasLog=true∧m.logState=1)
theorem nf_iff:zdv m=[]↔NF m := by
  constructor
  · intro h
    refine ⟨fun i hi h1 => ?_,fun h1 => ?_⟩
    · have := mem_failedL.2 (.inl ⟨i,hi,h1,rfl⟩:(∃ i':Nat,i' < m.legs.length∧stM m i' = 1∧((i:Nat):Int)=i')∨_)
      rw [h] at this; cases this
    · have := (mem_failedL (m:=m)).2 (.inr ⟨h1.1,h1.2,rfl⟩)
      rw [h] at this; cases this
  · intro h
    rw [List.eq_nil_iff_forall_not_mem]
    intro k hk
    rcases mem_failedL.1 hk with ⟨i,hi,h1, -⟩ | ⟨h1,h2, -⟩
    · exact h.leg i hi h1
    · exact h.log ⟨h1,h2⟩
theorem zgg (hl:m.legs.length≤6):(NF m→zbi m s=some 0)∧(¬ NF m→zbi m s=some 18) := by
  unfold zbi
  rw [zvb hl]; simp only [Option.bind_some]
  refine ⟨fun h => ?_,fun h => ?_⟩
  · rw [nf_iff.2 h,if_neg (by simp)]
  · rw [if_pos]
    rw [← nf_iff] at h
    have := List.length_pos_iff.2 h
    omega
end
def eachB (L:Nat) (ch:Nat→Option Bool) (act:Nat→MirS→ArrS→Option (Int × ArrS)) (rec:MirS→ArrS→Nat→Option ((MirS × ArrS) ⊕ (Int × MirS × ArrS))) (x:MirS) (y:ArrS) (i:Nat):Option ((MirS × ArrS) ⊕ (Int × MirS × ArrS)) :=
  if (((i:Nat):Int) < ((L:Nat):Int)) then
    grd (decide (i < x.legs.length)) <|
    if ((x.legs.getD i mleg_x0).state=(0:Int)) then
      Option.bind (ch i) fun r20 =>
      if r20=true then
        Option.bind (act i x y) fun r22 =>
        Option.bind (zbg x (((i:Nat):Int)) r22.1 r22.2) fun r24 =>
        if (r24.1≠(0:Int)) then
          some (.inr (r24.1,r24.2,r22.2))
        else
          rec r24.2 r22.2 (i + 1)
      else
        rec x y (i + 1)
    else
      rec x y (i + 1)
  else
    some (.inl (x,y))
theorem zix {L:Nat} {ch:Nat→Option Bool} {act:Nat→MirS→ArrS→Option (Int × ArrS)} {f:Nat→MirS→ArrS→Nat→Option ((MirS × ArrS) ⊕ (Int × MirS × ArrS))} (hf:∀ n x y i,f (n + 1) x y i=eachB L ch act (f n) x y i) {c:Nat→Bool} (hc:∀ i,i < L→ch i=some (c i))
    (P:Nat→MirS→ArrS→Prop) (Q:MirS→ArrS→Prop) (hlen:∀ i x y,P i x y→x.legs.length=L)
    (hstep:∀ i x y,i < L→P i x y→stM x i=0→c i=true → ∃ e y',act i x y=some (e,y')∧(e=0∧P (i + 1) x y' ∨ e=5∧Q x y' ∨ e≠0∧e≠5∧P (i + 1) (failM x i) y'))
    (hskip:∀ i x y,i < L→P i x y→(stM x i≠0∨c i=false)→P (i + 1) x y) :
    ∀ (N i:Nat) (x:MirS) (y:ArrS),L - i < N→i≤L→P i x y→(∃ x' y',f N x y i=some (.inl (x',y'))∧P L x' y')∨(∃ x' y',f N x y i=some (.inr (5,x',y'))∧Q x' y')
  | 0,_,_,_,h,_,_=>absurd h (by omega)
  | N + 1,i,x,y,h,hi,hp=>by
    have hrec := fun x y (hlt:i < L)=>zix hf hc P Q hlen hstep hskip N (i + 1) x y (by omega) (by omega)
    rw [hf]
    unfold eachB
    by_cases hlt:i < L
    · rw [if_pos (by omega),grd_t (decide_eq_true (by rw [hlen _ _ _ hp]; exact hlt))]
      by_cases hst:stM x i=0
      · rw [if_pos hst,hc i hlt]; simp only [Option.bind_some]
        by_cases hci:c i=true
        · rw [if_pos hci]
          obtain ⟨e,y',h1,h2⟩ := hstep i x y hlt hp hst hci
          rw [h1]; simp only [Option.bind_some]
          rcases h2 with ⟨rfl,h2⟩ | ⟨rfl,h2⟩ | ⟨h3,h4,h2⟩
          · rw [zlg (.inl rfl)]; simp only [Option.bind_some]
            rw [if_neg (by decide)]; exact hrec _ _ hlt h2
          · rw [zlg (.inr rfl)]; simp only [Option.bind_some]
            rw [if_pos (by decide)]; exact .inr ⟨_,_,rfl,h2⟩
          · rw [zw2 h3 h4 (by rw [hlen _ _ _ hp]; exact hlt) hst]; simp only [Option.bind_some]
            rw [if_neg (by decide)]; exact hrec _ _ hlt h2
        · rw [if_neg hci]; exact hrec _ _ hlt (hskip i x y hlt hp (.inr (by simpa using hci)))
      · rw [if_neg hst]; exact hrec _ _ hlt (hskip i x y hlt hp (.inl hst))
    · rw [if_neg (by omega)]
      have:i=L := by omega
      subst this
      exact .inl ⟨_,_,rfl,hp⟩
structure Fd (s:ArrS) (m m':MirS) (i:Nat):Prop where
  len:m'.legs.length=m.legs.length
  leg:∀ j,j < m.legs.length→(m'.legs.getD j mleg_x0).dev=(m.legs.getD j mleg_x0).dev∧(m'.legs.getD j mleg_x0).copied=(m.legs.getD j mleg_x0).copied∧(stM m' j=stM m j∨stM m j=0∧miss s j=true∧stM m' j=1)
  oth:m' = { m with legs := m'.legs }
section
variable {s t:ArrS} {m m':MirS} {i:Nat}
theorem Fd.refl:Fd s m m i := ⟨rfl,fun _ _=>⟨rfl,rfl,.inl rfl⟩,rfl⟩
theorem Fd.to {k:Nat} (h:Fd s m m' i):Fd s m m' k := ⟨h.len,h.leg,h.oth⟩
theorem Fd.arr (h:Fd s m m' i) (ht:∀ e,miss t e=miss s e):Fd t m m' i := ⟨h.len,fun j hj=>⟨(h.leg j hj).1,(h.leg j hj).2.1,by rw [ht]; exact (h.leg j hj).2.2⟩,h.oth⟩
theorem Fd.fail {k:Nat} (h:Fd s m m' i) (hk:k < m.legs.length) (hst:stM m' k=0) (hm:miss s k=true):Fd s m (failM m' k) (i + 1) := by
  have hk':k < m'.legs.length := by rw [h.len]; exact hk
  refine ⟨by rw [zu9,h.len],fun j hj => ?_,?_⟩
  · obtain ⟨h1,h2,h3⟩ := h.leg j hj
    unfold stM at h3 hst ⊢
    rw [zw1 hk']
    by_cases e:j=k
    · subst e
      rw [if_pos rfl]
      refine ⟨h1,h2,.inr ⟨?_,hm,rfl⟩⟩
      rcases h3 with h3 | ⟨h3, -, -⟩
      · rw [← h3]; exact hst
      · exact h3
    · rw [if_neg e]; exact ⟨h1,h2,h3⟩
  · have := h.oth
    unfold failM
    rw [this]
theorem Fd.trans {m'':MirS} (h:Fd s m m' i) (h':Fd s m' m'' i):Fd s m m'' i := by
  refine ⟨h'.len.trans h.len,fun j hj => ?_,?_⟩
  · obtain ⟨h1,h2,h3⟩ := h.leg j hj
    obtain ⟨k1,k2,k3⟩ := h'.leg j (by rw [h.len]; exact hj)
    refine ⟨k1.trans h1,k2.trans h2,?_⟩
    rcases h3 with h3 | ⟨h3,h4,h5⟩
    · rw [h3] at k3; exact k3
    · rcases k3 with k3 | ⟨k3, -, -⟩
      · exact .inr ⟨h3,h4,by rw [k3]; exact h5⟩
      · rw [h5] at k3; cases k3
  · rw [h'.oth,h.oth]
end
end Go.Proofs
namespace Go.Proofs
open Go.VG
def SetB (C:MC) (s:ArrS) (r:Nat):Prop := ∀ c ∈ cand s C.L 1,tb c r=true
structure LI (C:MC) (s:ArrS) (g:LogS):Prop where
  lok:LogOk C.L 3 C.R g
  head:∀ c ∈ cand s C.L 0,c=headL C.R
  now:Go.Proofs.now s C.L 1=g.bits.getD 0 0
  dur:∀ r:Nat,r < C.R→(lookM g.durable (r:Int)).isSome=true→SetB C s r
structure Lg (C:MC) (K:Nat) (s t:ArrS) (p q:Nat→Prop):Prop where
  ok:ArrOk C.ns (K + 1) t
  dn:t.down=false
  fz:s.fuse=0→t.fuse=0
  miss:∀ e,Go.Proofs.miss t e=Go.Proofs.miss s e
  leg:∀ e b,e < C.L→b < C.sz→Go.Proofs.now t e b=Go.Proofs.now s e b∧cand t e b=cand s e b
  set:∀ r,r < C.R → ¬ q r→SetB C s r→SetB C t r
  bit:∀ c ∈ cand t C.L 1, ∀ r,r < C.R→tb c r=true→p r ∨ ∃ c' ∈ cand s C.L 1,tb c' r=true
section
variable {C:MC} {K r:Nat} {s:ArrS} {g:LogS} {p q:Nat→Prop}
theorem MC.nW1:nW C.R=1 := by have := C.hR; unfold nW; omega
theorem Lg.refl (h:ArrOk C.ns K s) (hdn:s.down=false):Lg C K s s p q := ⟨h.mono (by omega),hdn,id,fun _=>rfl,fun _ _ _ _=>⟨rfl,rfl⟩,fun _ _ _ h=>h,fun c hc _ _ h => .inr ⟨c,hc,h⟩⟩
theorem bitR0 {l:List UInt64} (hr:r < C.R):bitR l r=tb (l.getD 0 0) r := by
  have := C.hR
  unfold bitR
  rw [show r / 64=0 by omega,show r % 64=r by omega]
theorem zro {is:Bool} {k:Nat} (hl:g.bits.length=nW C.R) (hr:r < C.R) (hk:k < C.R):tb ((setR g.bits r is).getD 0 0) k=if k=r then is else tb (g.bits.getD 0 0) k := by
  have := C.hR
  have h1 := z0v (l:=g.bits) (r:=r) (q:=k) (is:=is) (by rw [hl,MC.nW1]; omega)
  rw [bitR0 hk,bitR0 hk] at h1
  exact h1
theorem logL:C.L < C.ns.length := by rw [MC.len]; omega
theorem LI.arr {t:ArrS} (h:LI C s g) (h0:∀ c ∈ cand t C.L 0,c ∈ cand s C.L 0) (h1:∀ c ∈ cand t C.L 1,c ∈ cand s C.L 1) (hn:Go.Proofs.now t C.L 1=Go.Proofs.now s C.L 1):LI C t g :=
  ⟨h.lok,fun c hc=>h.head c (h0 c hc),by rw [hn]; exact h.now,fun r hr hd c hc=>h.dur r hr hd c (h1 c hc)⟩
theorem zvc (h:ArrOk C.ns K s) (hdn:s.down=false) (hK:K < 1000000) (hm:miss s C.L=false) (hg:LI C s g) (hr:r < C.R):∃ e g' s',zd4 g (r:Int) s=some (e,g',s') ∧
    (e=0∧LI C s' g' ∧ SetB C s' r∧Lg C K s s' (fun k=>k=r) (fun _=>False)∨e=5∧s.fuse=1∧Fell C.ns K s s') := by
  have hR := C.hR
  have hns:C.ns.getD C.L 0=3 := MC.log
  have hw:1 + nW C.R≤3 := by rw [MC.nW1]; omega
  by_cases hdur:(lookM g.durable (r:Int)).isSome=true
  · exact ⟨0,g,s,zwz hg.lok hr hdur,.inl ⟨rfl,hg,hg.dur r hr hdur,Lg.refl h hdn⟩⟩
  · rw [Bool.not_eq_true] at hdur
    have e0:r / 64=0 := by omega
    rcases z2g logL hns (by decide) hg.lok h hdn hm hK hr (by omega) hw hdur with ⟨h0,u,t,h1,h2,h3⟩ | ⟨h0,t,h1,h2⟩
    · rw [e0] at h2
      have hcand:∀ b,b < 3→cand t C.L b=[Go.Proofs.now u C.L b] := fun b hb=>by rw [h3.cand C.L b logL (by rw [hns]; exact hb),if_pos rfl]
      have hnow:Go.Proofs.now u C.L 1=(setR g.bits r true).getD 0 0 := by rw [h2.now,if_pos ⟨rfl,rfl⟩]
      have hold:∀ k,k < C.R→tb (g.bits.getD 0 0) k=true → ∃ c' ∈ cand s C.L 1,tb c' k=true := fun k hk hb=>⟨_,h.now_cand logL (by rw [hns]; decide),by rw [hg.now]; exact hb⟩
      have hset:∀ k,k < C.R→SetB C s k→tb (g.bits.getD 0 0) k=true := fun k hk hs=>by rw [← hg.now]; exact hs _ (h.now_cand logL (by rw [hns]; decide))
      have hmk:∀ k,k < C.R→(k=r∨SetB C s k)→SetB C t k := fun k hk hc c hcc=>by
        rw [hcand 1 (by decide),List.mem_singleton] at hcc
        rw [hcc,hnow,zro hg.lok.len hr hk]
        split
        · rfl
        · rename_i hne
          rcases hc with hc | hc
          · exact absurd hc hne
          · exact hset k hk hc
      refine ⟨0,_,t,h1,.inl ⟨rfl,⟨⟨hg.lok.x,hg.lok.reg,by rw [← hg.lok.len]; exact znc,zs1 _ _ _ hg.lok.nd⟩,fun c hc => ?_,by rw [h3.now,hnow],fun k hk hd => ?_⟩,hmk r hr (.inl rfl),?_⟩⟩
      · rw [hcand 0 (by decide),List.mem_singleton] at hc
        rw [hc,h2.now,if_neg (fun x=>by have := x.2; omega)]
        exact hg.head _ (h.now_cand logL (by rw [hns]; decide))
      · have hd':(lookM (setM g.durable (r:Int) ()) (k:Int)).isSome=true := hd
        rw [zy3] at hd'
        by_cases e:k=r
        · exact hmk k hk (.inl e)
        · rw [if_neg (by omega)] at hd'
          exact hmk k hk (.inr (hg.dur k hk hd'))
      · refine ⟨h3.ok,h3.dn,fun hf=>by rw [h3.fuse,h2.fuse,hf],fun e=>by rw [h3.miss,h2.miss],fun e b he hb => ?_,fun k hk _ hs=>hmk k hk (.inr hs),fun c hc k hk hb => ?_⟩
        · refine ⟨by rw [h3.now,h2.now,if_neg (fun x=>by have := x.1; omega)],?_⟩
          rw [h3.cand e b (by rw [MC.len]; omega) (by rw [MC.leg he]; exact hb),if_neg (by omega),h2.cand,if_neg (fun x=>by have := x.1; omega)]
        · rw [hcand 1 (by decide),List.mem_singleton] at hc
          rw [hc,hnow,zro hg.lok.len hr hk] at hb
          split at hb
          · rename_i e; exact .inl e
          · exact .inr (hold k hk hb)
    · exact ⟨5,_,t,h1,.inr ⟨rfl,h0,h2⟩⟩
theorem zzl (h:ArrOk C.ns K s) (hdn:s.down=false) (hK:K < 1000000) (hm:miss s C.L=false) (hg:LI C s g) (hr:r < C.R):∃ e g' s',zeo g (r:Int) s=some (e,g',s') ∧
    (e=0∧LI C s' g' ∧ Lg C K s s' (fun _=>False) (fun k=>k=r)∨e=5∧s.fuse=1∧Fell C.ns K s s') := by
  have hR := C.hR
  have hns:C.ns.getD C.L 0=3 := MC.log
  have hw:1 + nW C.R≤3 := by rw [MC.nW1]; omega
  have e0:r / 64=0 := by omega
  rcases z0y logL hns (by decide) hg.lok h hdn hm hK hr (by omega) hw with ⟨h0,t,h1,h2⟩ | ⟨h0,t,h1,h2⟩
  · rw [e0] at h2
    have hcand:cand t C.L 1=cand s C.L 1 ++ [(setR g.bits r false).getD 0 0] := by rw [h2.cand,if_pos ⟨rfl,rfl⟩]
    have hnow:Go.Proofs.now t C.L 1=(setR g.bits r false).getD 0 0 := by rw [h2.now,if_pos ⟨rfl,rfl⟩]
    have hold:∀ k,k < C.R→tb (g.bits.getD 0 0) k=true → ∃ c' ∈ cand s C.L 1,tb c' k=true := fun k hk hb=>⟨_,h.now_cand logL (by rw [hns]; decide),by rw [hg.now]; exact hb⟩
    have hset:∀ k,k < C.R→SetB C s k→tb (g.bits.getD 0 0) k=true := fun k hk hs=>by rw [← hg.now]; exact hs _ (h.now_cand logL (by rw [hns]; decide))
    have hmk:∀ k,k < C.R → ¬ k=r→SetB C s k→SetB C t k := fun k hk hne hs c hcc=>by
      rw [hcand] at hcc
      rcases List.mem_append.1 hcc with hcc | hcc
      · exact hs c hcc
      · rw [List.mem_singleton.1 hcc,zro hg.lok.len hr hk,if_neg hne]; exact hset k hk hs
    refine ⟨0,_,t,h1,.inl ⟨rfl,⟨⟨hg.lok.x,hg.lok.reg,by rw [← hg.lok.len]; exact znc,znq _ _ hg.lok.nd⟩,fun c hc => ?_,hnow,fun k hk hd => ?_⟩,?_⟩⟩
    · rw [h2.cand,if_neg (fun x=>by have := x.2; omega)] at hc; exact hg.head c hc
    · have hd':(lookM (delM g.durable (r:Int)) (k:Int)).isSome=true := hd
      rw [zy4 _ _ _ hg.lok.nd] at hd'
      by_cases e:k=r
      · rw [if_pos (by omega)] at hd'; cases hd'
      · rw [if_neg (by omega)] at hd'
        exact hmk k hk e (hg.dur k hk hd')
    · refine ⟨h2.ok,h2.dn,fun hf=>by rw [h2.fuse,hf],h2.miss,fun e b he hb => ?_,hmk,fun c hc k hk hb => ?_⟩
      · exact ⟨by rw [h2.now,if_neg (fun x=>by have := x.1; omega)],by rw [h2.cand,if_neg (fun x=>by have := x.1; omega)]⟩
      · rw [hcand] at hc
        rcases List.mem_append.1 hc with hc | hc
        · exact .inr ⟨c,hc,hb⟩
        · rw [List.mem_singleton.1 hc,zro hg.lok.len hr hk] at hb
          split at hb
          · cases hb
          · exact .inr (hold k hk hb)
  · exact ⟨5,_,t,h1,.inr ⟨rfl,h0,h2⟩⟩
theorem z0z (h:ArrOk C.ns K s) (hdn:s.down=false) (hK:K≤1000000) (hm:miss s C.L=true) (hg:LogOk C.L 3 C.R g) (hr:r < C.R):∃ e g',zd4 g (r:Int) s=some (e,g',s)∧LogOk C.L 3 C.R g' ∧ (e=0∨e=6) := by
  have hR := C.hR
  have hns:C.ns.getD C.L 0=3 := MC.log
  have hw:1 + nW C.R≤3 := by rw [MC.nW1]; omega
  by_cases hdur:(lookM g.durable (r:Int)).isSome=true
  · exact ⟨0,g,zwz hg hr hdur,hg,.inl rfl⟩
  · have e0:r / 64=0 := by omega
    obtain ⟨w1,w2⟩ := wrM (v:=(setR g.bits r true).getD (r / 64) 0) h hdn logL (a:=1 + r / 64) (by rw [hns,e0]; decide) hm
    unfold zd4
    rw [if_neg (by rw [hg.reg]; omega),if_neg hdur,zto logL hns (by decide) hg h hK hr (by omega) hw,if_pos (.inr rfl)]
    simp only [Option.bind_some]
    rw [w1,w2,if_pos (by decide)]
    exact ⟨6,_,rfl,⟨hg.x,hg.reg,by rw [← hg.len]; exact znc,hg.nd⟩,.inr rfl⟩
theorem zzm (h:ArrOk C.ns K s) (hdn:s.down=false) (hK:K≤1000000) (hm:miss s C.L=true) (hg:LogOk C.L 3 C.R g) (hr:r < C.R):∃ g',zeo g (r:Int) s=some (6,g',s)∧LogOk C.L 3 C.R g' := by
  have hR := C.hR
  have hns:C.ns.getD C.L 0=3 := MC.log
  have hw:1 + nW C.R≤3 := by rw [MC.nW1]; omega
  have e0:r / 64=0 := by omega
  obtain ⟨w1,w2⟩ := wrM (v:=(setR g.bits r false).getD (r / 64) 0) h hdn logL (a:=1 + r / 64) (by rw [hns,e0]; decide) hm
  have hg':LogOk C.L 3 C.R { g with durable := delM g.durable (r:Int) } := ⟨hg.x,hg.reg,hg.len,znq _ _ hg.nd⟩
  unfold zeo
  rw [if_neg (by rw [hg.reg]; omega),zto logL hns (by decide) hg' h hK hr (by omega) hw,if_neg (by rw [w1]; decide)]
  simp only [Option.bind_some]
  rw [w1,w2]
  exact ⟨_,rfl,hg'⟩
end
end Go.Proofs
namespace Go.Proofs
open Go.VG
structure LV where
  f:Nat→Bool
  lost:List Int
  cp:Nat→Int
  ms:Nat→Bool
instance:CoeFun LV (fun _=>Nat→Bool) := ⟨LV.f⟩
structure MI (C:MC) (s:ArrS) (lv:LV) (m:MirS):Prop where
  len:m.legs.length=C.L
  leg:∀ i,i < C.L→(m.legs.getD i mleg_x0).dev=xL i C.sz∧((m.legs.getD i mleg_x0).copied=lv.cp i∨stM m i≠2)∧(lv i=true∧stM m i=0∧miss s i=false∨lv i=false∧(stM m i=2∨miss s i=true∧(stM m i=0∨stM m i=1)))
  size:m.size=(C.sz:Int)
  region:m.region=(C.rg:Int)
  hasLog:m.hasLog=C.lg
  dl:m.dirty.length=C.R
  log:lv C.L=true∧m.logState=0∧miss s C.L=false∧(∃ g,m.log=some g∧LI C s g)∨lv C.L=false∧(m.log=none∧m.logState=2∨C.lg=true∧miss s C.L=true∧(m.logState=0∨m.logState=1) ∧ ∃ g,m.log=some g∧LogOk C.L 3 C.R g)
  d:lv C.L=true → ∀ r,r < C.R→m.dirty.getD r false=true→SetB C s r
def One (C:MC) (s:ArrS) (lv:LV) (r:Nat):Prop := ∃ f:Nat→UInt64, ∀ a,a < C.sz→a / C.rg=r → ∀ i,i < C.L→lv i=true → ∀ c ∈ cand s i a,c=f a
structure DI (C:MC) (K:Nat) (s:ArrS) (t:List Sec) (lv:LV):Prop where
  ok:ArrOk C.ns K s
  tl:t.length=C.sz
  ex:∃ i,i < C.L∧lv i=true
  miss:∀ i,i≤C.L→lv i=true→Go.Proofs.miss s i=false
  lgl:lv C.L=true→C.lg=true
  cnd:∀ a,a < C.sz → ∀ i,i < C.L→lv i=true → ∀ c ∈ cand s i a,c ∈ (t.getD a s0).some
  head:lv C.L=true → ∀ c ∈ cand s C.L 0,c=headL C.R
  c:lv C.L=true → ∀ r,r < C.R→SetB C s r∨One C s lv r
theorem zw4 {l:List Int} {k:Int} (hl:l.length≤1000000):∀ (N i:Nat),l.length - i < N→i≤l.length→(∀ j,j < i→l.getD j 0≠k)→zfj l k N i=some (.inl ())∧k ∉ l ∨ ∃ j:Nat,zfj l k N i=some (.inr ((j:Nat):Int))∧k ∈ l
  | 0,_,h,_,_=>absurd h (by omega)
  | N + 1,i,h,hi,hn=>by
    have hrec := zw4 (k:=k) hl N (i + 1)
    have hu:zfj l k (N + 1) i=zhx l k (zfj l k N) i := rfl
    rw [hu]
    unfold zhx
    by_cases hlt:i < l.length
    · rw [if_pos (by omega)]
      by_cases he:k=l.getD i 0
      · rw [if_pos he]
        exact .inr ⟨i,rfl,by rw [he]; simp [List.getD,hlt]⟩
      · rw [if_neg he]
        exact hrec (by omega) (by omega) (fun j hj=>by
          by_cases e:j=i
          · rw [e]; exact fun x=>he x.symm
          · exact hn j (by omega))
    · rw [if_neg (by omega)]
      refine .inl ⟨rfl,fun hk => ?_⟩
      obtain ⟨j,hj,e⟩ := List.mem_iff_getElem.1 hk
      exact hn j (by omega) (by simp [List.getD,hj,e])
theorem zh0 {l:List Int} {k:Int} (hl:l.length≤1000000):zdw l k=some (decide (k ∈ l)) := by
  unfold zdw zkl
  have hF := zbp
  rcases zw4 (k:=k) hl FUEL 0 (by omega) (by omega) (fun j hj=>absurd hj (by omega)) with ⟨h1,h2⟩ | ⟨j,h1,h2⟩
  · rw [h1,zd6]; simp only [Option.bind_some]; rw [decide_eq_false h2,decide_eq_false (by omega)]
  · rw [h1,zjv]; simp only [Option.bind_some]; rw [decide_eq_true h2,decide_eq_true (by omega)]
section
variable {C:MC} {K a i at_:Nat} {s t:ArrS} {lv:LV} {m m':MirS} {w v:UInt64}
theorem MI.fd {k:Nat} (h:MI C s lv m) (hf:Fd s m m' k):MI C s lv m' := by
  have e := hf.oth
  refine ⟨hf.len.trans h.len,fun i hi => ?_,by rw [e]; exact h.size,by rw [e]; exact h.region,by rw [e]; exact h.hasLog,by rw [e]; exact h.dl,by rw [e]; exact h.log,by rw [e]; exact h.d⟩
  obtain ⟨h1,h2,h3⟩ := h.leg i hi
  obtain ⟨k1,k2,k3⟩ := hf.leg i (by rw [h.len]; exact hi)
  refine ⟨k1.trans h1,?_,?_⟩
  · rcases h2 with z | z
    · exact .inl (k2.trans z)
    · refine .inr fun y => ?_
      rcases k3 with k3 | ⟨-, -,k5⟩
      · exact z (k3.symm.trans y)
      · rw [k5] at y; cases y
  rcases h3 with ⟨h3,h4,h5⟩ | ⟨h3,h4⟩
  · rcases k3 with k3 | ⟨-,k4, -⟩
    · exact .inl ⟨h3,k3.trans h4,h5⟩
    · rw [h5] at k4; cases k4
  · refine .inr ⟨h3,?_⟩
    rcases k3 with k3 | ⟨-,k4,k5⟩
    · rw [k3]; exact h4
    · exact .inr ⟨k4,.inr k5⟩
theorem MI.live (h:MI C s lv m) (hi:i < C.L) (hl:lv i=true):stM m i=0∧miss s i=false := by
  rcases (h.leg i hi).2.2 with ⟨-,h1,h2⟩ | ⟨h1, -⟩
  · exact ⟨h1,h2⟩
  · rw [hl] at h1; cases h1
theorem MI.good (h:MI C s lv m) (hi:i < C.L) (hst:stM m i=0):lv i=true∧miss s i=false∨lv i=false∧miss s i=true := by
  rcases (h.leg i hi).2.2 with ⟨h0,h1,h2⟩ | ⟨h0,h1 | ⟨h1, -⟩⟩
  · exact .inl ⟨h0,h2⟩
  · rw [hst] at h1; cases h1
  · exact .inr ⟨h0,h1⟩
theorem MI.dev (h:MI C s lv m) (hi:i < C.L):(m.legs.getD i mleg_x0).dev=xL i C.sz := (h.leg i hi).1
theorem MI.gI (h:MI C s lv m) (hi:i < C.L) {α:Type} {o:Option α} : grd (decide (0≤((i:Nat):Int)∧((i:Nat):Int) < (m.legs.length:Int))) o=o := grd_t (decide_eq_true ⟨by omega,by rw [h.len]; omega⟩)
theorem zw5 (h:MI C s lv m) (hok:ArrOk C.ns K s) (hdn:s.down=false) (ha:a < C.sz):∀ (N i:Nat),C.L - i < N→i≤C.L→(∃ j,i≤j∧j < C.L∧lv j=true) →
    (∃ f,f < C.L∧lv f=true∧zef m (a:Int) s N i []=some (.inr (now s f a,((f:Nat):Int),[],0,m)))∨(∃ k,k < C.L∧stM m k=0∧miss s k=true∧zef m (a:Int) s N i []=some (.inr (0,0,[],18,failM m k)))
  | 0,_,h,_,_=>absurd h (by omega)
  | N + 1,i,hN,hi,⟨j,hj1,hj2,hj3⟩=>by
    have hu:zef m (a:Int) s (N + 1) i []=zg5 m (a:Int) s (zef m (a:Int) s N) i [] := rfl
    rw [hu]
    unfold zg5
    have hlt:i < C.L := by omega
    rw [if_pos (by rw [h.len]; omega)]
    by_cases hst:stM m i=0
    · rw [if_neg (fun x=>x hst),h.dev hlt]
      rcases h.good hlt hst with ⟨h1,h2⟩ | ⟨h1,h2⟩
      · rw [zw0 hok hdn hlt ha h2]; simp only [Option.bind_some]
        rw [if_pos trivial]; exact .inl ⟨i,hlt,h1,rfl⟩
      · obtain ⟨w,hw⟩ := zyr hok hdn hlt ha h2
        rw [hw]; simp only [Option.bind_some]
        rw [if_neg (by decide),if_neg (by decide),zw2 (by decide) (by decide) (by rw [h.len]; exact hlt) hst]; simp only [Option.bind_some]
        rw [if_neg (by decide)]
        exact .inr ⟨i,hlt,hst,h2,rfl⟩
    · rw [if_pos hst]
      exact zw5 h hok hdn ha N (i + 1) (by omega) (by omega) ⟨j,by
        rcases Nat.lt_or_ge i j with x | x
        · exact x
        · have:i=j := by omega
          subst this
          exact absurd (h.live hj2 hj3).1 hst,hj2,hj3⟩
theorem zsm (h:MI C s lv m) (hok:ArrOk C.ns K s) (hdn:s.down=false) (ha:a < C.sz) (hex:∃ j,j < C.L∧lv j=true) :
    (∃ f,f < C.L∧lv f=true∧zeq m (a:Int) s=some (now s f a,((f:Nat):Int),[],0,m))∨(∃ k,k < C.L∧stM m k=0∧miss s k=true∧zeq m (a:Int) s=some (0,0,[],18,failM m k)) := by
  unfold zeq
  have hF := zbp
  have hL := C.hL
  obtain ⟨j,hj,hl⟩ := hex
  rcases zw5 h hok hdn ha FUEL 0 (by omega) (by omega) ⟨j,by omega,hj,hl⟩ with ⟨f,h1,h2,h3⟩ | ⟨k,h1,h2,h3,h4⟩
  · rw [h3,zjv]; exact .inl ⟨f,h1,h2,rfl⟩
  · rw [h4,zjv]; exact .inr ⟨k,h1,h2,h3,rfl⟩
theorem zw6 {k:Nat} (hk:k < m.legs.length):¬ NF (failM m k) := fun h=>h.leg k (by rw [zu9]; exact hk) (by unfold stM; rw [zw1 hk,if_pos rfl])
theorem Fd.nf {k:Nat} (h:Fd s m m' k) (hnf:NF m'):NF m := by
  have e := h.oth
  refine ⟨fun j hj h1 => ?_,fun h1=>hnf.log (by rw [e]; exact h1)⟩
  rcases (h.leg j hj).2.2 with h2 | ⟨-, -,h2⟩
  · exact hnf.leg j (by rw [h.len]; exact hj) (h2.trans h1)
  · exact hnf.leg j (by rw [h.len]; exact hj) h2
theorem zvd (h:MI C s lv m) (hc:∀ i,i < C.L→lv.cp i=0) {y:ArrS} : ∀ (N i:Nat),C.L - i < N→i≤C.L→zca m (a:Int) w N m y i=some (.inl (m,y))
  | 0,_,h,_=>absurd h (by omega)
  | N + 1,i,hN,hi=>by
    have hu:zca m (a:Int) w (N + 1) m y i=zdb m (a:Int) w (zca m (a:Int) w N) m y i := rfl
    rw [hu]
    unfold zdb
    by_cases hlt:i < C.L
    · have hl:i < m.legs.length := by rw [h.len]; exact hlt
      rw [if_pos (by omega),grd_t (decide_eq_true hl),grd_t (decide_eq_true (fun _=>hl)),if_neg (fun x=>by
        rcases (h.leg i hlt).2.1 with z | z
        · rw [z,hc i hlt] at x; omega
        · exact z x.1)]
      exact zvd h hc N (i + 1) (by omega) (by omega)
    · rw [if_neg (by rw [h.len]; omega)]
theorem zo1 (h:MI C s lv m) (hc:∀ i,i < C.L→lv.cp i=0) {y:ArrS} : zc6 m (a:Int) w y=some (0,m,y) := by
  unfold zc6
  have hF := zbp
  have hL := C.hL
  rw [zvd h hc FUEL 0 (by omega) (by omega),zd6]
theorem MC.divI (ha:a < C.sz):IntKind.i64.wrap ((a:Int).tdiv (C.rg:Int))=((a / C.rg:Nat):Int) := by
  have h1:(a:Int).tdiv (C.rg:Int)=((a / C.rg:Nat):Int) := (Int.ofNat_tdiv a C.rg).symm
  have h2:a / C.rg≤a := Nat.div_le_self _ _
  have h3 := C.hs
  rw [h1]
  generalize a / C.rg=q at h2 ⊢
  exact ziu (by omega) (by omega)
theorem MI.l6 (h:MI C s lv m):m.legs.length≤6 := by rw [h.len]; have := C.hL; omega
theorem MI.l6' {k:Nat} (h:MI C s lv m) (hf:Fd s m m' k):m'.legs.length≤6 := by rw [hf.len]; exact h.l6
end
end Go.Proofs
namespace Go.Proofs
open Go.VG
section
variable {C:MC} {K a i:Nat} {s t y:ArrS} {lv:LV} {m m' x:MirS} {w v:UInt64}
theorem zoi (h:MI C s lv x) (hok:ArrOk C.ns K s) (hdn:s.down=false) (ha:a < C.sz) (hi:i < C.L) (hl:lv i=true) (hw:now s i a=w):zcs ((i:Nat):Int) [] x (a:Int) w s=some (0,s) := by
  unfold zcs
  rw [zh0 (by simp)]; simp only [Option.bind_some]
  rw [if_pos (by simp),h.gI hi,Int.toNat_natCast,h.dev hi,zw0 hok hdn hi ha (h.live hi hl).2,hw]; simp only [Option.bind_some]
  rw [if_pos (.inl ⟨trivial,trivial⟩),zjv]
theorem zq6 (h:MI C s lv x) (hok:ArrOk C.ns K s) (hdn:s.down=false) (ha:a < C.sz) (hi:i < C.L) (hm:miss s i=true):zcs ((i:Nat):Int) [] x (a:Int) w s=some (6,s) := by
  unfold zcs
  obtain ⟨w',hw'⟩ := zyr hok hdn hi ha hm
  rw [zh0 (by simp)]; simp only [Option.bind_some]
  rw [if_pos (by simp),h.gI hi,Int.toNat_natCast,h.dev hi,hw']; simp only [Option.bind_some]
  rw [if_pos (.inr ⟨by decide,by decide⟩),zjv]
theorem zw7 (h:MI C s lv x) (hok:ArrOk C.ns K s) (hdn:s.down=false) (hK:K < 1000000) (ha:a < C.sz) (hi:i < C.L) (hl:lv i=true) (hw:now s i a≠w) (hf:s.fuse=0) :
    ∃ u t,zcs ((i:Nat):Int) [] x (a:Int) w s=some (0,t)∧Wrote C.ns K s i a w u∧Flushed1 C.ns (K + 1) u i t := by
  unfold zcs
  have hd := (h.live hi hl).2
  have hin:i < C.ns.length := by rw [MC.len]; omega
  rw [zh0 (by simp)]; simp only [Option.bind_some]
  rw [if_pos (by simp),h.gI hi,Int.toNat_natCast,h.dev hi,zw0 hok hdn hi ha hd]; simp only [Option.bind_some]
  rw [if_neg (by rintro (x | x); exact hw x.2; exact x.1 rfl),zd6,h.gI hi,zoh hok (by omega) hi ha]; simp only [Option.bind_some]
  rcases hok.wrA (v:=w) (by omega) hdn hin (by rw [MC.leg hi]; exact ha) hd with ⟨-,h2,h3⟩ | ⟨h1, -⟩
  · obtain ⟨k1,k2⟩ := h3.ok.flA (d:=i) h3.dn hin (by rw [h3.miss]; exact hd)
    rw [h2,if_neg (by decide),h.gI hi,zq4 h3.ok (by omega) hi,k1]; simp only [Option.bind_some]
    exact ⟨_,_,rfl,h3,k2⟩
  · rw [hf] at h1; cases h1
theorem zjw {o:Option ((MirS × ArrS) ⊕ (Int × MirS × ArrS))} {r:Option (Int × MirS × ArrS)} (hr:r=seqO o fun a12=>Option.bind (zbi a12.1 a12.2) fun r28=>some (r28,a12.1,a12.2)) {P:MirS→ArrS→Prop} {Q:MirS→ArrS→Prop} (hl:∀ x y,P x y→x.legs.length≤6)
    (h:(∃ x' y',o=some (.inl (x',y'))∧P x' y')∨(∃ x' y',o=some (.inr (5,x',y'))∧Q x' y')):∃ e x' y',r=some (e,x',y')∧(e=0∧NF x' ∧ P x' y' ∨ e=18 ∧ ¬ NF x' ∧ P x' y' ∨ e=5∧Q x' y') := by
  subst hr
  rcases h with ⟨x',y',h1,h2⟩ | ⟨x',y',h1,h2⟩
  · rw [h1,zd6]
    by_cases hn:NF x'
    · rw [(zgg (hl _ _ h2)).1 hn]; exact ⟨0,x',y',rfl,.inl ⟨rfl,hn,h2⟩⟩
    · rw [(zgg (hl _ _ h2)).2 hn]; exact ⟨18,x',y',rfl,.inr (.inl ⟨rfl,hn,h2⟩)⟩
  · rw [h1,zjv]; exact ⟨5,x',y',rfl,.inr (.inr ⟨rfl,h2⟩)⟩
theorem zw8 (h:MI C s lv m) (hcp:∀ i,i < C.L→lv.cp i=0) (hnf:NF m) (hok:ArrOk C.ns K s) (hdn:s.down=false) (ha:a < C.sz) (hex:∃ j,j < C.L∧lv j=true) (hw:∀ j,j < C.L→lv j=true→now s j a=w) :
    ∃ m',Fd s m m' 0∧(zb4 m (a:Int) s=some (w,0,m',s)∧NF m' ∨ (∃ w',zb4 m (a:Int) s=some (w',18,m',s)) ∧ ¬ NF m') := by
  have hF := zbp
  have hL := C.hL
  unfold zb4
  rw [if_neg (by omega),if_neg (by rw [h.size]; omega),(zgg h.l6).1 hnf]; simp only [Option.bind_some]
  rw [if_neg (by simp)]
  rcases zsm h hok hdn ha hex with ⟨f,h1,h2,h3⟩ | ⟨k,h1,h2,h3,h4⟩
  · rw [h3]; simp only [Option.bind_some]
    have hr := MC.reg ha
    rw [if_neg (by simp),h.region,grd_t (decide_eq_true (by have := C.hr; omega)),MC.divI ha,grd_t (decide_eq_true ⟨Int.natCast_nonneg _,by rw [h.dl]; exact Int.ofNat_lt.2 hr⟩),Int.toNat_natCast,hw f h1 h2]
    by_cases hd:m.dirty.getD (a / C.rg) false=true
    · rw [if_pos hd]
      unfold zhd
      obtain ⟨e,x',y',e1,e2⟩ := zjw (r:=zcm m ((f:Nat):Int) [] (a:Int) w s) rfl (P:=fun x y=>Fd s m x 0∧y=s) (Q:=fun _ _=>False) (fun x y hp=>h.l6' hp.1)
        (zix (L:=m.legs.length) (f:=zb3 m ((f:Nat):Int) [] (a:Int) w) (ch:=fun i=>zgd ((i:Nat):Int) ((f:Nat):Int)) (act:=fun i x y=>zcs ((i:Nat):Int) [] x (a:Int) w y) (fun _ _ _ _=>rfl)
          (c:=fun i=>decide (((i:Nat):Int)≠((f:Nat):Int))) (fun i _=>rfl) (fun _ x y=>Fd s m x 0∧y=s) (fun _ _=>False) (fun i x y hp=>hp.1.len)
          (fun i x y hi hp hst _=>by
            obtain ⟨hp,rfl⟩ := hp
            rw [h.len] at hi
            have hx := h.fd hp
            rcases hx.good hi hst with ⟨k1,k2⟩ | ⟨k1,k2⟩
            · exact ⟨0,y,zoi hx hok hdn ha hi k1 (hw i hi k1),.inl ⟨rfl,hp,rfl⟩⟩
            · exact ⟨6,y,zq6 hx hok hdn ha hi k2,.inr (.inr ⟨by decide,by decide,(hp.fail (by rw [h.len]; exact hi) hst k2).to,rfl⟩)⟩)
          (fun _ _ _ _ hp _=>hp) FUEL 0 m s (by have := h.l6; omega) (by omega) ⟨Fd.refl,rfl⟩)
      rw [e1]; simp only [Option.bind_some]
      rcases e2 with ⟨rfl,e2,e3,rfl⟩ | ⟨rfl,e2,e3,rfl⟩ | ⟨-,e2⟩
      · rw [if_neg (by simp),zo1 (h.fd e3) hcp]; simp only [Option.bind_some]
        rw [if_neg (by simp)]
        exact ⟨x',e3,.inl ⟨rfl,e2⟩⟩
      · rw [if_pos (by decide)]; simp only [Option.bind_some]
        rw [if_pos (by decide)]
        exact ⟨x',e3,.inr ⟨⟨_,rfl⟩,e2⟩⟩
      · exact e2.elim
    · rw [if_neg hd]
      obtain ⟨e,x',y',e1,e2⟩ := zjw (r:=zdm m [] (a:Int) w s) rfl (P:=fun x y=>x=m∧y=s) (Q:=fun _ _=>False) (fun x y hp=>by rw [hp.1]; exact h.l6)
        (zix (L:=m.legs.length) (f:=zci m [] (a:Int) w) (ch:=fun i=>zf4 ((i:Nat):Int) []) (act:=fun i x y=>zh6 ((i:Nat):Int) x (a:Int) w y) (fun _ _ _ _=>rfl)
          (c:=fun i=>false) (fun i _=>by unfold zf4; rw [zh0 (by simp)]; rfl) (fun _ x y=>x=m∧y=s) (fun _ _=>False) (fun i x y hp=>by rw [hp.1])
          (fun i x y hi hp hst hc=>by cases hc) (fun _ _ _ _ hp _=>hp) FUEL 0 m s (by have := h.l6; omega) (by omega) ⟨rfl,rfl⟩)
      rw [e1]; simp only [Option.bind_some]
      rcases e2 with ⟨rfl,e2,rfl,rfl⟩ | ⟨rfl,e2,rfl,rfl⟩ | ⟨-,e2⟩
      · rw [if_neg (by simp)]; exact ⟨x',Fd.refl,.inl ⟨rfl,hnf⟩⟩
      · exact absurd hnf e2
      · exact e2.elim
  · rw [h4]; simp only [Option.bind_some]
    rw [if_pos (by decide)]
    exact ⟨_,(Fd.refl.fail (i:=0) (by rw [h.len]; exact h1) h2 h3).to,.inr ⟨⟨_,rfl⟩,zw6 (by rw [h.len]; exact h1)⟩⟩
structure Rd (C:MC) (K:Nat) (s:ArrS) (lv:LV) (a:Nat) (t:ArrS):Prop where
  ok:ArrOk C.ns K t
  dn:t.down=false
  fz:t.fuse=0
  miss:∀ e,Go.Proofs.miss t e=Go.Proofs.miss s e
  log:∀ b,b < 3→now t C.L b=now s C.L b∧cand t C.L b=cand s C.L b
  oth:∀ j,j < C.L→lv j=true → ∀ b,b < C.sz→b≠a→now t j b=now s j b
  one:∀ j,j < C.L→lv j=true → ∀ b,b < C.sz→cand t j b=[now t j b]
  at_:∀ j,j < C.L→lv j=true → ∃ f,f < C.L∧lv f=true∧now t j a=now s f a
theorem Rd.refl (hok:ArrOk C.ns K s) (hdn:s.down=false) (hf:s.fuse=0) (h1:∀ j,j < C.L→lv j=true → ∀ b,b < C.sz→cand s j b=[now s j b]):Rd C K s lv a s :=
  ⟨hok,hdn,hf,fun _=>rfl,fun _ _=>⟨rfl,rfl⟩,fun _ _ _ _ _ _=>rfl,h1,fun j hj hl=>⟨j,hj,hl,rfl⟩⟩
theorem Rd.put {K':Nat} {u:ArrS} (h:Rd C K s lv a t) (hK:K + 1≤K') (hi:i < C.L) (_hl:lv i=true) (_ha:a < C.sz) (hw:∃ f,f < C.L∧lv f=true∧w=now s f a) (h1:Wrote C.ns K t i a w u) (h2:Flushed1 C.ns (K + 1) u i y):Rd C K' s lv a y∧now y i a=w ∧ ∀ j,j≠i→now y j a=now t j a := by
  have hn:∀ e b,now y e b=if i=e∧a=b then w else now t e b := fun e b=>by rw [h2.now,h1.now]
  have hc:∀ e b,e < C.ns.length→b < C.ns.getD e 0→cand y e b=if i=e then [now y e b] else cand t e b := fun e b he hb=>by
    rw [h2.cand e b he hb]
    split
    · rw [h2.now]
    · rename_i hne
      rw [h1.cand,if_neg (fun x=>hne x.1)]
  refine ⟨⟨h2.ok.mono hK,h2.dn,by rw [h2.fuse,h1.fuse,h.fz],fun e=>by rw [h2.miss,h1.miss,h.miss],fun b hb => ?_,fun j hj hlj b hb hba => ?_,fun j hj hlj b hb => ?_,fun j hj hlj => ?_⟩,by rw [hn,if_pos ⟨rfl,rfl⟩],fun j hj=>by rw [hn,if_neg (fun x=>hj x.1.symm)]⟩
  · rw [hn,if_neg (fun x=>by omega),hc C.L b logL (by rw [MC.log]; exact hb),if_neg (by omega)]
    exact h.log b hb
  · rw [hn,if_neg (fun x=>hba x.2.symm)]; exact h.oth j hj hlj b hb hba
  · rw [hc j b (by rw [MC.len]; omega) (by rw [MC.leg hj]; exact hb)]
    split
    · rfl
    · rename_i hne
      rw [h.one j hj hlj b hb,hn,if_neg (fun x=>hne x.1)]
  · rw [hn]
    split
    · exact hw
    · exact h.at_ j hj hlj
theorem MI.arr (h:MI C s lv m) (hm:∀ e,miss t e=miss s e) (hlog:∀ b,b < 3→now t C.L b=now s C.L b∧cand t C.L b=cand s C.L b):MI C t lv m := by
  refine ⟨h.len,fun i hi=>by rw [hm]; exact h.leg i hi,h.size,h.region,h.hasLog,h.dl,?_,fun hl r hr hd c hc => ?_⟩
  · rw [hm]
    rcases h.log with ⟨h1,h2,h3,g,h4,h5⟩ | h1
    · exact .inl ⟨h1,h2,h3,g,h4,h5.arr (fun c hc=>by rw [← (hlog 0 (by decide)).2]; exact hc) (fun c hc=>by rw [← (hlog 1 (by decide)).2]; exact hc) (hlog 1 (by decide)).1⟩
    · exact .inr h1
  · rw [(hlog 1 (by decide)).2] at hc
    exact h.d hl r hr hd c hc
theorem read_s (h:MI C s lv m) (hcp:∀ i,i < C.L→lv.cp i=0) (hnf:NF m) (hok:ArrOk C.ns K s) (hdn:s.down=false) (hK:K + 8≤1000000) (ha:a < C.sz) (hex:∃ j,j < C.L∧lv j=true) (hf:s.fuse=0) (h1:∀ j,j < C.L→lv j=true → ∀ b,b < C.sz→cand s j b=[now s j b]) (hd:m.dirty.getD (a / C.rg) false=true) :
    ∃ m' t,Fd s m m' 0∧Rd C (K + 8) s lv a t∧((∃ w,zb4 m (a:Int) s=some (w,0,m',t) ∧ ∀ j,j < C.L→lv j=true→now t j a=w)∧NF m' ∨ (∃ w',zb4 m (a:Int) s=some (w',18,m',t)) ∧ ¬ NF m') := by
  have hF := zbp
  have hL := C.hL
  unfold zb4
  rw [if_neg (by omega),if_neg (by rw [h.size]; omega),(zgg h.l6).1 hnf]; simp only [Option.bind_some]
  rw [if_neg (by simp)]
  rcases zsm h hok hdn ha hex with ⟨f,f1,f2,f3⟩ | ⟨k,k1,k2,k3,k4⟩
  · rw [f3]; simp only [Option.bind_some]
    have hr := MC.reg ha
    rw [if_neg (by simp),h.region,grd_t (decide_eq_true (by have := C.hr; omega)),MC.divI ha,grd_t (decide_eq_true ⟨Int.natCast_nonneg _,by rw [h.dl]; exact Int.ofNat_lt.2 hr⟩),Int.toNat_natCast,if_pos hd]
    unfold zhd
    generalize hwd:now s f a=w
    obtain ⟨e,x',y',e1,e2⟩ := zjw (r:=zcm m ((f:Nat):Int) [] (a:Int) w s) rfl (P:=fun x y=>Fd s m x 0∧Rd C (K + 2 * m.legs.length) s lv a y ∧ ∀ j,j < C.L→lv j=true→j < m.legs.length∨j=f→now y j a=w) (Q:=fun _ _=>False) (fun x y hp=>h.l6' hp.1)
      (zix (L:=m.legs.length) (f:=zb3 m ((f:Nat):Int) [] (a:Int) w) (ch:=fun i=>zgd ((i:Nat):Int) ((f:Nat):Int)) (act:=fun i x y=>zcs ((i:Nat):Int) [] x (a:Int) w y) (fun _ _ _ _=>rfl)
        (c:=fun i=>decide (((i:Nat):Int)≠((f:Nat):Int))) (fun i _=>rfl) (fun i x y=>Fd s m x 0∧Rd C (K + 2 * i) s lv a y ∧ ∀ j,j < C.L→lv j=true→j < i∨j=f→now y j a=w) (fun _ _=>False) (fun i x y hp=>hp.1.len)
        (fun i x y hi hp hst hc=>by
          obtain ⟨hp,hq,hv⟩ := hp
          have hne:i≠f := by
            have := of_decide_eq_true hc
            omega
          rw [h.len] at hi
          have hx := (h.fd hp).arr hq.miss hq.log
          rcases hx.good hi hst with ⟨g1,g2⟩ | ⟨g1,g2⟩
          · by_cases hsame:now y i a=w
            · refine ⟨0,y,zoi hx hq.ok hq.dn ha hi g1 hsame,.inl ⟨rfl,hp,⟨hq.ok.mono (by omega),hq.dn,hq.fz,hq.miss,hq.log,hq.oth,hq.one,hq.at_⟩,fun j hj hl hji => ?_⟩⟩
              by_cases e:j=i
              · rw [e]; exact hsame
              · exact hv j hj hl (by omega)
            · obtain ⟨u,t,t1,t2,t3⟩ := zw7 hx hq.ok hq.dn (by omega) ha hi g1 hsame hq.fz
              obtain ⟨r1,r2,r3⟩ := hq.put (K' := K + 2 * (i + 1)) (by omega) hi g1 ha ⟨f,f1,f2,hwd.symm⟩ t2 t3
              refine ⟨0,t,t1,.inl ⟨rfl,hp,r1,fun j hj hl hji => ?_⟩⟩
              by_cases e:j=i
              · rw [e]; exact r2
              · rw [r3 j e]; exact hv j hj hl (by omega)
          · refine ⟨6,y,zq6 hx hq.ok hq.dn ha hi g2,.inr (.inr ⟨by decide,by decide,(hp.fail (by rw [h.len]; exact hi) hst (by rw [← hq.miss]; exact g2)).to,⟨hq.ok.mono (by omega),hq.dn,hq.fz,hq.miss,hq.log,hq.oth,hq.one,hq.at_⟩,fun j hj hl hji => ?_⟩)⟩
            by_cases e:j=i
            · subst e; rw [hl] at g1; cases g1
            · exact hv j hj hl (by omega))
        (fun i x y hi hp hc=>by
          obtain ⟨hp,hq,hv⟩ := hp
          refine ⟨hp,⟨hq.ok.mono (by omega),hq.dn,hq.fz,hq.miss,hq.log,hq.oth,hq.one,hq.at_⟩,fun j hj hl hji => ?_⟩
          by_cases e:j=i
          · subst e
            rcases hc with hc | hc
            · exact absurd ((h.fd hp).live hj hl).1 hc
            · have := of_decide_eq_false hc
              exact hv j hj hl (.inr (by omega))
          · exact hv j hj hl (by omega)) FUEL 0 m s (by have := h.l6; omega) (by omega) ⟨Fd.refl,Rd.refl hok hdn hf h1,fun j hj hl hji=>by
            rcases hji with hji | hji
            · omega
            · rw [hji]; exact hwd⟩)
    rw [e1]; simp only [Option.bind_some]
    have hmono:∀ {y},Rd C (K + 2 * m.legs.length) s lv a y→Rd C (K + 8) s lv a y := fun hq=>⟨hq.ok.mono (by rw [h.len]; omega),hq.dn,hq.fz,hq.miss,hq.log,hq.oth,hq.one,hq.at_⟩
    rcases e2 with ⟨rfl,e2,e3,e4,e5⟩ | ⟨rfl,e2,e3,e4,e5⟩ | ⟨-,e2⟩
    · rw [if_neg (by simp),zo1 (h.fd e3) hcp]; simp only [Option.bind_some]
      rw [if_neg (by simp)]
      exact ⟨x',y',e3,hmono e4,.inl ⟨⟨w,rfl,fun j hj hl=>e5 j hj hl (.inl (by rw [h.len]; exact hj))⟩,e2⟩⟩
    · rw [if_pos (by decide)]; simp only [Option.bind_some]
      rw [if_pos (by decide)]
      exact ⟨x',y',e3,hmono e4,.inr ⟨⟨_,rfl⟩,e2⟩⟩
    · exact e2.elim
  · rw [k4]; simp only [Option.bind_some]
    rw [if_pos (by decide)]
    exact ⟨_,s,(Fd.refl.fail (i:=0) (by rw [h.len]; exact k1) k2 k3).to,Rd.refl (hok.mono (by omega)) hdn hf h1,.inr ⟨⟨_,rfl⟩,zw6 (by rw [h.len]; exact k1)⟩⟩
end
end Go.Proofs
namespace Go.Proofs
open Go.VG
structure Mk (m m':MirS):Prop where
  len:m'.legs.length=m.legs.length
  st:∀ j,j < m.legs.length→(stM m' j=2↔stM m j=2)
  lst:m'.logState=2↔m.logState=2
  dirty:m'.dirty=m.dirty
  copied:m'.copied=m.copied
structure WrD (C:MC) (K:Nat) (s:ArrS) (lv:LV) (a:Nat) (v:UInt64) (t:ArrS):Prop where
  ok:ArrOk C.ns K t
  miss:∀ e,Go.Proofs.miss t e=Go.Proofs.miss s e
  dead:∀ j,j < C.L→lv j=false → ∀ b,b < C.sz→now t j b=now s j b
  cnd:∀ j,j < C.L→lv j=true → ∀ b,b < C.sz → ∀ c ∈ cand t j b,c ∈ cand s j b∨b=a∧c=v
  head:∀ c ∈ cand t C.L 0,lv C.L=true→c=headL C.R
  set:∀ r,r < C.R→lv C.L=true→SetB C s r→SetB C t r
  reg:lv C.L=true→SetB C t (a / C.rg) ∨ ∀ j,j < C.L→lv j=true → ∀ b,b < C.sz→cand t j b=cand s j b
  bit:lv C.L=true → ∀ c ∈ cand t C.L 1, ∀ r,r < C.R→tb c r=true→r=a / C.rg ∨ ∃ c' ∈ cand s C.L 1,tb c' r=true
structure Wr (C:MC) (K:Nat) (s:ArrS) (lv:LV) (a:Nat) (v:UInt64) (t:ArrS):Prop extends WrD C K s lv a v t where
  dn:t.down=false
  fz:s.fuse=0→t.fuse=0
  now:∀ j,j < C.L→lv j=true → ∀ b,b < C.sz→b≠a→Go.Proofs.now t j b=Go.Proofs.now s j b
structure Wd (C:MC) (K:Nat) (s:ArrS) (lv:LV) (a:Nat) (v:UInt64) (i:Nat) (t:ArrS):Prop where
  ok:ArrOk C.ns (K + i) t
  dn:t.down=false
  fz:s.fuse=0→t.fuse=0
  miss:∀ e,Go.Proofs.miss t e=Go.Proofs.miss s e
  log:∀ b,b < 3→Go.Proofs.now t C.L b=Go.Proofs.now s C.L b∧cand t C.L b=cand s C.L b
  dead:∀ j,j < C.L→lv j=false → ∀ b,Go.Proofs.now t j b=Go.Proofs.now s j b
  now:∀ j,j < C.L→lv j=true → ∀ b,b < C.sz→b≠a→Go.Proofs.now t j b=Go.Proofs.now s j b
  at_:∀ j,j < C.L→lv j=true→j < i→Go.Proofs.now t j a=v
  cnd:∀ j,j < C.L→lv j=true → ∀ b,b < C.sz → ∀ c ∈ cand t j b,c ∈ cand s j b∨b=a∧c=v
structure Wf (C:MC) (K:Nat) (s:ArrS) (lv:LV) (a:Nat) (v:UInt64) (t:ArrS):Prop where
  ok:ArrOk C.ns K t
  fz:s.fuse≠0
  miss:∀ e,Go.Proofs.miss t e=Go.Proofs.miss s e
  log:∀ b,b < 3→cand t C.L b=cand s C.L b
  dead:∀ j,j < C.L→lv j=false → ∀ b,now t j b=now s j b
  cnd:∀ j,j < C.L→lv j=true → ∀ b,b < C.sz → ∀ c ∈ cand t j b,c ∈ cand s j b∨b=a∧c=v
section
variable {C:MC} {K a i r:Nat} {s t u y:ArrS} {lv:LV} {m m' x:MirS} {w v:UInt64}
theorem Mk.refl:Mk m m := ⟨rfl,fun _ _=>Iff.rfl,Iff.rfl,rfl,rfl⟩
theorem Mk.trans {m'':MirS} (h:Mk m m') (h':Mk m' m''):Mk m m'' := ⟨h'.len.trans h.len,fun j hj=>(h'.st j (by rw [h.len]; exact hj)).trans (h.st j hj),h'.lst.trans h.lst,h'.dirty.trans h.dirty,h'.copied.trans h.copied⟩
theorem Fd.mks {k:Nat} (h:Fd s m m' k):Mk m m' := by
  have e := h.oth
  refine ⟨h.len,fun j hj => ?_,by rw [e],by rw [e],by rw [e]⟩
  rcases (h.leg j hj).2.2 with h1 | ⟨h1, -,h2⟩
  · rw [h1]
  · rw [h1,h2]; exact ⟨fun x=>(by cases x),fun x=>(by cases x)⟩
theorem Wd.start (hok:ArrOk C.ns K s) (hdn:s.down=false):Wd C K s lv a v 0 s :=
  ⟨hok,hdn,id,fun _=>rfl,fun _ _=>⟨rfl,rfl⟩,fun _ _ _ _=>rfl,fun _ _ _ _ _ _=>rfl,fun _ _ _ h=>absurd h (by omega),fun _ _ _ _ _ _ h => .inl h⟩
theorem Wd.same (h:Wd C K s lv a v i t) (hl:i < C.L→lv i=false):Wd C K s lv a v (i + 1) t :=
  ⟨h.ok.mono (by omega),h.dn,h.fz,h.miss,h.log,h.dead,h.now,fun j hj hlj hji=>by
    by_cases e:j=i
    · subst e; rw [hl hj] at hlj; cases hlj
    · exact h.at_ j hj hlj (by omega),h.cnd⟩
theorem Wd.put (h:Wd C K s lv a v i t) (hi:i < C.L) (hl:lv i=true) (h1:Wrote C.ns (K + i) t i a v u):Wd C K s lv a v (i + 1) u := by
  refine ⟨h1.ok,h1.dn,fun hf=>by rw [h1.fuse,h.fz hf],fun e=>by rw [h1.miss,h.miss],fun b hb => ?_,fun j hj hlj b => ?_,fun j hj hlj b hb hba => ?_,fun j hj hlj hji => ?_,fun j hj hlj b hb c hc => ?_⟩
  · rw [h1.now,h1.cand,if_neg (fun x=>by omega),if_neg (fun x=>by omega)]; exact h.log b hb
  · rw [h1.now,if_neg (fun x=>by have := x.1; subst this; rw [hl] at hlj; cases hlj)]; exact h.dead j hj hlj b
  · rw [h1.now,if_neg (fun x=>hba x.2.symm)]; exact h.now j hj hlj b hb hba
  · rw [h1.now]
    by_cases e:i=j
    · rw [if_pos ⟨e,rfl⟩]
    · rw [if_neg (fun x=>e x.1)]; exact h.at_ j hj hlj (by omega)
  · rw [h1.cand] at hc
    split at hc
    · rename_i x
      rcases List.mem_append.1 hc with hc | hc
      · exact h.cnd j hj hlj b hb c hc
      · exact .inr ⟨x.2.symm,List.mem_singleton.1 hc⟩
    · exact h.cnd j hj hlj b hb c hc
theorem Wd.fell (h:Wd C K s lv a v i t) (hi:i≤C.L) (hf:t.fuse=1) (h1:Fell C.ns (K + i) t u):Wf C (K + 4) s lv a v u := by
  have := C.hL
  refine ⟨h1.ok.mono (by omega),fun hf' => (by rw [h.fz hf'] at hf; cases hf),fun e=>by rw [h1.miss,h.miss],fun b hb=>by rw [h1.cand]; exact (h.log b hb).2,fun j hj hlj b=>by rw [h1.now]; exact h.dead j hj hlj b,fun j hj hlj b hb c hc=>by rw [h1.cand] at hc; exact h.cnd j hj hlj b hb c hc⟩
def wtail (m:MirS) (a:Int) (v:UInt64) (s:ArrS):Option (Int × MirS × ArrS) :=
  Option.bind (zcb m a v s) fun r13 =>
  if (r13.1=(5:Int)) then
    some (r13.1,r13.2.1,r13.2.2)
  else
    Option.bind (zc6 r13.2.1 a v r13.2.2) fun r15 =>
    if (r15.1≠(0:Int)) then
      some (r15.1,r15.2.1,r15.2.2)
    else
      some (r13.1,r15.2.1,r15.2.2)
theorem z2h (h:MI C s lv m) (hcp:∀ i,i < C.L→lv.cp i=0) (hok:ArrOk C.ns K s) (hdn:s.down=false) (hK:K + 8≤1000000) (ha:a < C.sz) :
    ∃ e m' t,wtail m (a:Int) v s=some (e,m',t)∧(e=0∧NF m' ∧ Fd s m m' 0∧Wd C K s lv a v C.L t∨e=18 ∧ ¬ NF m' ∧ Fd s m m' 0∧Wd C K s lv a v C.L t∨e=5∧Wf C (K + 4) s lv a v t) := by
  have hF := zbp
  have hL := C.hL
  unfold wtail
  obtain ⟨e,x',y',e1,e2⟩ := zjw (r:=zcb m (a:Int) v s) rfl (P:=fun x y=>Fd s m x 0∧Wd C K s lv a v m.legs.length y) (Q:=fun _ y=>Wf C (K + 4) s lv a v y) (fun x y hp=>h.l6' hp.1)
    (zix (L:=m.legs.length) (f:=zdf m (a:Int) v) (ch:=fun i=>zjc ((i:Nat):Int)) (act:=fun i x y=>zcn ((i:Nat):Int) x (a:Int) v y) (fun _ _ _ _=>rfl)
      (c:=fun _=>true) (fun i _=>rfl) (fun i x y=>Fd s m x 0∧Wd C K s lv a v i y) (fun _ y=>Wf C (K + 4) s lv a v y) (fun i x y hp=>hp.1.len)
      (fun i x y hi hp hst _=>by
        obtain ⟨hp,hq⟩ := hp
        rw [h.len] at hi
        have hx := (h.fd hp).arr hq.miss hq.log
        have hun:∀ o,zcn ((i:Nat):Int) x (a:Int) v y=Option.bind o (fun r8=>some (r8.1,r8.2))→zcn ((i:Nat):Int) x (a:Int) v y=o := fun o ho=>by rw [ho]; cases o <;> rfl
        have hw:zcn ((i:Nat):Int) x (a:Int) v y=(xL i C.sz).wr y (a:Int) v := hun _ (by unfold zcn; rw [hx.gI hi,Int.toNat_natCast,hx.dev hi])
        rw [hw]
        rcases hx.good hi hst with ⟨g1,g2⟩ | ⟨g1,g2⟩
        · rw [zoh hq.ok (by omega) hi ha]
          rcases hq.ok.wrA (v:=v) (by omega) hq.dn (by rw [MC.len]; omega:i < C.ns.length) (by rw [MC.leg hi]; exact ha) g2 with ⟨-,w2,w3⟩ | ⟨w1,w2,w3⟩
          · rw [w2]; exact ⟨0,_,rfl,.inl ⟨rfl,hp,hq.put hi g1 w3⟩⟩
          · rw [w2]; exact ⟨5,_,rfl,.inr (.inl ⟨rfl,hq.fell (by omega) w1 w3⟩)⟩
        · rw [z3v hq.ok hq.dn (by omega) hi ha g2]
          exact ⟨6,_,rfl,.inr (.inr ⟨by decide,by decide,(hp.fail (by rw [h.len]; exact hi) hst (by rw [← hq.miss]; exact g2)).to,hq.same (fun _=>g1)⟩)⟩)
      (fun i x y hi hp hc=>by
        obtain ⟨hp,hq⟩ := hp
        rw [h.len] at hi
        rcases hc with hc | hc
        · refine ⟨hp,hq.same (fun _ => ?_)⟩
          cases hl:lv i
          · rfl
          · exact absurd ((h.fd hp).live hi hl).1 hc
        · cases hc) FUEL 0 m s (by have := h.l6; omega) (by omega) ⟨Fd.refl,Wd.start hok hdn⟩)
  rw [e1]; simp only [Option.bind_some]
  rw [h.len] at e2
  rcases e2 with ⟨rfl,e2,e3,e4⟩ | ⟨rfl,e2,e3,e4⟩ | ⟨rfl,e2⟩
  · rw [if_neg (by decide),zo1 (h.fd e3) hcp]; simp only [Option.bind_some]
    rw [if_neg (by simp)]
    exact ⟨_,_,_,rfl,.inl ⟨rfl,e2,e3,e4⟩⟩
  · rw [if_neg (by decide),zo1 (h.fd e3) hcp]; simp only [Option.bind_some]
    rw [if_neg (by simp)]
    exact ⟨_,_,_,rfl,.inr (.inl ⟨rfl,e2,e3,e4⟩)⟩
  · rw [if_pos rfl]
    exact ⟨_,_,_,rfl,.inr (.inr ⟨rfl,e2⟩)⟩
theorem Wd.wr (h:Wd C (K + 1) s lv a v C.L t) {s0:ArrS} (hl:lv C.L=true→Lg C K s0 s (fun k=>k=a / C.rg) (fun _=>False)∧SetB C s (a / C.rg) ∧ ∀ c ∈ cand s C.L 0,c=headL C.R) (hn:lv C.L=false→s=s0) (_ha:a < C.sz):Wr C (K + 8) s0 lv a v t := by
  have hL := C.hL
  cases hlv:lv C.L
  · obtain rfl := hn hlv
    have hno:∀ {p:Prop},lv C.L=true→p := fun hx=>absurd hx (by rw [hlv]; decide)
    exact ⟨⟨h.ok.mono (by omega),h.miss,fun j hj hl b _=>h.dead j hj hl b,h.cnd,fun c hc hx=>hno hx,fun r hr hx=>hno hx,fun hx=>hno hx,fun hx=>hno hx⟩,h.dn,h.fz,h.now⟩
  · obtain ⟨h1,h2,h3⟩ := hl hlv
    have hs:∀ r,SetB C s r→SetB C t r := fun r hr c hc=>by rw [(h.log 1 (by decide)).2] at hc; exact hr c hc
    refine ⟨⟨h.ok.mono (by omega),fun e=>by rw [h.miss,h1.miss],fun j hj hlj b hb => ?_,fun j hj hlj b hb c hc => ?_,fun c hc _=>by rw [(h.log 0 (by decide)).2] at hc; exact h3 c hc,fun r hr _ hx=>hs r (h1.set r hr (fun x=>x) hx),fun _ => .inl (hs _ h2),fun _ c hc r hr hb=>by rw [(h.log 1 (by decide)).2] at hc; exact h1.bit c hc r hr hb⟩,h.dn,fun hf=>h.fz (h1.fz hf),fun j hj hlj b hb hba=>by rw [h.now j hj hlj b hb hba,(h1.leg j b hj hb).1]⟩
    · rw [h.dead j hj hlj b,(h1.leg j b hj hb).1]
    · rcases h.cnd j hj hlj b hb c hc with x | x
      · rw [(h1.leg j b hj hb).2] at x; exact .inl x
      · exact .inr x
def zn0 (m:MirS) (g:LogS):MirS := { m with log := some g }
theorem znx {g:LogS} (h:NF m):NF (zn0 m g) := ⟨h.leg,h.log⟩
theorem zny {g:LogS} : Mk m (zn0 m g) := ⟨rfl,fun _ _=>Iff.rfl,Iff.rfl,rfl,rfl⟩
theorem Mk.fd {k:Nat} (h:Mk m x) (hf:Fd s x m' k):Mk m m' := h.trans hf.mks
theorem Wd.mi (h:MI C s lv m) (hw:Wd C K s lv a v i t):MI C t lv m := h.arr hw.miss hw.log
theorem zuf (h:MI C s lv m):(m.log=none∧lv C.L=false)∨(∃ g,m.log=some g∧lv C.L=true∧m.logState=0∧miss s C.L=false∧LI C s g)∨(∃ g,m.log=some g∧lv C.L=false∧C.lg=true∧miss s C.L=true∧(m.logState=0∨m.logState=1)∧LogOk C.L 3 C.R g) := by
  rcases h.log with ⟨h1,h2,h3,g,h4,h5⟩ | ⟨h1,⟨h2,h3⟩ | ⟨h2,h3,h4,g,h5,h6⟩⟩
  · exact .inr (.inl ⟨g,h4,h1,h2,h3,h5⟩)
  · exact .inl ⟨h2,h1⟩
  · exact .inr (.inr ⟨g,h5,h1,h2,h3,h4,h6⟩)
theorem MI.withLog_live {g:LogS} (h:MI C s lv m) (hl:lv C.L=true) (hls:m.logState=0) (hm:∀ e,miss t e=miss s e) (hms:miss s C.L=false) (hg:LI C t g) (hd:∀ r,r < C.R→m.dirty.getD r false=true→SetB C t r):MI C t lv (zn0 m g) :=
  ⟨h.len,fun i hi=>by rw [hm]; exact h.leg i hi,h.size,h.region,h.hasLog,h.dl,.inl ⟨hl,hls,by rw [hm]; exact hms,g,rfl,hg⟩,fun _=>hd⟩
theorem MI.withLog_miss {g:LogS} (h:MI C s lv m) (hl:lv C.L=false) (hlg:C.lg=true) (hms:miss s C.L=true) {z:Int} (hz:z=0∨z=1) (hg:LogOk C.L 3 C.R g):MI C s lv { m with log := some g,logState := z } :=
  ⟨h.len,h.leg,h.size,h.region,h.hasLog,h.dl,.inr ⟨hl,.inr ⟨hlg,hms,hz,g,rfl,hg⟩⟩,fun hx=>absurd hx (by rw [hl]; decide)⟩
theorem zw9 (_hok:ArrOk C.ns K s) (h1:ArrOk C.ns (K + 8) t) (hm:∀ e,miss t e=miss s e) (hn:∀ e b,now t e b=now s e b) (hc:∀ e b,cand t e b=cand s e b) (hh:∀ c ∈ cand s C.L 0,lv C.L=true→c=headL C.R):WrD C (K + 8) s lv a v t :=
  ⟨h1,hm,fun _ _ _ _ _=>hn _ _,fun j _ _ b _ c h => .inl (by rw [hc] at h; exact h),fun c h=>hh c (by rw [hc] at h; exact h),fun r _ _ hx c h=>hx c (by rw [hc] at h; exact h),fun _ => .inr (fun _ _ _ _ _=>hc _ _),fun _ c h _ _ hb => .inr ⟨c,by rw [hc] at h; exact h,hb⟩⟩
theorem z2i (h:MI C s lv m) (hcp:∀ i,i < C.L→lv.cp i=0) (hnf:NF m) (hok:ArrOk C.ns K s) (hdn:s.down=false) (hK:K + 16≤1000000) (ha:a < C.sz) :
    ∃ e m' t,zer m (a:Int) v s=some (e,m',t) ∧
      (e=0∧NF m' ∧ MI C t lv m' ∧ Mk m m' ∧ Wr C (K + 8) s lv a v t∧(∀ j,j < C.L→lv j=true→now t j a=v) ∨
       e=18 ∧ ¬ NF m' ∧ MI C t lv m' ∧ Mk m m' ∧ Wr C (K + 8) s lv a v t ∨
       e=5∧s.fuse≠0∧WrD C (K + 8) s lv a v t) := by
  -- the legs
  have tail:∀ {m1:MirS} {s1:ArrS},MI C s1 lv m1→ArrOk C.ns (K + 1) s1→s1.down=false→Mk m m1→(s.fuse=0→s1.fuse=0)→(lv C.L=true→Lg C K s s1 (fun k=>k=a / C.rg) (fun _=>False)∧SetB C s1 (a / C.rg) ∧ ∀ c ∈ cand s1 C.L 0,c=headL C.R)→(lv C.L=false→s1=s) →
      ∃ e m' t,wtail m1 (a:Int) v s1=some (e,m',t) ∧
      (e=0∧NF m' ∧ MI C t lv m' ∧ Mk m m' ∧ Wr C (K + 8) s lv a v t∧(∀ j,j < C.L→lv j=true→now t j a=v) ∨
       e=18 ∧ ¬ NF m' ∧ MI C t lv m' ∧ Mk m m' ∧ Wr C (K + 8) s lv a v t ∨
       e=5∧s.fuse≠0∧WrD C (K + 8) s lv a v t) := by
    intro m1 s1 h1 hok1 hdn1 hmk hfz hl hn
    obtain ⟨e,m',t,e1,e2⟩ := z2h (v:=v) h1 hcp hok1 hdn1 (by omega) ha
    rw [e1]
    rcases e2 with ⟨rfl,g1,g2,g3⟩ | ⟨rfl,g1,g2,g3⟩ | ⟨rfl,g1⟩
    · exact ⟨_,_,_,rfl,.inl ⟨rfl,g1,g3.mi (h1.fd g2),hmk.fd g2,g3.wr hl hn ha,fun j hj hlj=>g3.at_ j hj hlj hj⟩⟩
    · exact ⟨_,_,_,rfl,.inr (.inl ⟨rfl,g1,g3.mi (h1.fd g2),hmk.fd g2,g3.wr hl hn ha⟩)⟩
    · refine ⟨_,_,_,rfl,.inr (.inr ⟨rfl,fun hx=>g1.fz (hfz hx),?_⟩)⟩
      cases hlv:lv C.L
      · obtain rfl := hn hlv
        have hno:∀ {p:Prop},lv C.L=true→p := fun hx=>absurd hx (by rw [hlv]; decide)
        exact ⟨g1.ok.mono (by omega),g1.miss,fun j hj hl b _=>g1.dead j hj hl b,g1.cnd,fun c hc hx=>hno hx,fun r hr hx=>hno hx,fun hx=>hno hx,fun hx=>hno hx⟩
      · obtain ⟨k1,k2,k3⟩ := hl hlv
        have hs:∀ r,SetB C s1 r→SetB C t r := fun r hr c hc=>by rw [g1.log 1 (by decide)] at hc; exact hr c hc
        refine ⟨g1.ok.mono (by omega),fun e=>by rw [g1.miss,k1.miss],fun j hj hlj b hb=>by rw [g1.dead j hj hlj b,(k1.leg j b hj hb).1],fun j hj hlj b hb c hc => ?_,fun c hc _=>by rw [g1.log 0 (by decide)] at hc; exact k3 c hc,fun r hr _ hx=>hs r (k1.set r hr (fun x=>x) hx),fun _ => .inl (hs _ k2),fun _ c hc r hr hb=>by rw [g1.log 1 (by decide)] at hc; exact k1.bit c hc r hr hb⟩
        rcases g1.cnd j hj hlj b hb c hc with x | x
        · rw [(k1.leg j b hj hb).2] at x; exact .inl x
        · exact .inr x
  unfold zer
  rw [if_neg (by omega),if_neg (by rw [h.size]; omega),(zgg h.l6).1 hnf]; simp only [Option.bind_some]
  rw [if_neg (by simp)]
  have hrr := MC.reg ha
  have hrg := C.hr
  rcases zuf h with ⟨g1,g2⟩ | ⟨g,g1,g2,g3,g4,g5⟩ | ⟨g,g1,g2,g3,g4,g5,g6⟩
  · rw [g1]; simp only [Option.elim_none]
    have e:({ m with log := none } : MirS)=m := by cases m; cases g1; rfl
    rw [e]
    exact tail h (hok.mono (by omega)) hdn Mk.refl id (fun hx=>absurd hx (by rw [g2]; decide)) (fun _=>rfl)
  · rw [g1]; simp only [Option.elim_some]
    obtain ⟨e,g',s1,k1,k2⟩ := zvc hok hdn (by omega) g4 g5 hrr
    rw [h.region,grd_t (decide_eq_true (by omega)),MC.divI ha,k1]; simp only [Option.bind_some]
    rcases k2 with ⟨rfl,k3,k4,k5⟩ | ⟨rfl,k3,k4⟩
    · rw [zlg (.inl rfl)]; simp only [Option.bind_some]
      have hml:(⟨m.legs,some g',m.hasLog,m.logState,m.size,(C.rg:Int),m.dirty,m.copied⟩:MirS)=zn0 m g' := by rw [← h.region]; rfl
      rw [if_neg (by simp),hml]
      have hmi := h.withLog_live g2 g3 k5.miss g4 k3 (fun r hr hd=>k5.set r hr (fun x=>x) (h.d g2 r hr hd))
      rw [(zgg hmi.l6).1 (znx hnf)]; simp only [Option.bind_some]
      rw [if_neg (by simp)]
      exact tail hmi k5.ok k5.dn zny k5.fz (fun _=>⟨k5,k4,k3.head⟩) (fun hx=>absurd hx (by rw [g2]; decide))
    · rw [zlg (.inr rfl)]; simp only [Option.bind_some]
      rw [if_pos (by decide)]
      refine ⟨_,_,_,rfl,.inr (.inr ⟨rfl,by rw [k3]; decide,zw9 hok (k4.ok.mono (by omega)) k4.miss k4.now k4.cand (fun c hc _=>g5.head c hc)⟩)⟩
  · rw [g1]; simp only [Option.elim_some]
    obtain ⟨e,g',k1,k2,k3⟩ := z0z hok hdn (by omega) g4 g6 hrr
    rw [h.region,grd_t (decide_eq_true (by omega)),MC.divI ha,k1]; simp only [Option.bind_some]
    have hml:(⟨m.legs,some g',m.hasLog,m.logState,m.size,(C.rg:Int),m.dirty,m.copied⟩:MirS) = { m with log := some g',logState := m.logState } := by rw [← h.region]
    rcases k3 with rfl | rfl
    · rw [zlg (.inl rfl)]; simp only [Option.bind_some]
      rw [if_neg (by simp),hml]
      have hmi := h.withLog_miss (z:=m.logState) g2 g3 g4 g5 k2
      rw [(zgg hmi.l6).1 ⟨hnf.leg,hnf.log⟩]; simp only [Option.bind_some]
      rw [if_neg (by simp)]
      exact tail hmi (hok.mono (by omega)) hdn zny id (fun hx=>absurd hx (by rw [g2]; decide)) (fun _=>rfl)
    · rw [hml]
      have hnl := zw3 (m := { m with log := some g',logState := m.logState }) (s:=s) (e:=6) (by decide) (by decide)
      have hlen:({ m with log := some g',logState := m.logState } : MirS).legs.length=m.legs.length := rfl
      rw [hlen] at hnl
      rw [hnl]; simp only [Option.bind_some]
      rw [if_neg (by simp)]
      have hmi := h.withLog_miss (z:=1) g2 g3 g4 (.inr rfl) k2
      have hbad:¬ NF ({ m with log := some g',logState := 1 } : MirS) := fun hx=>hx.log ⟨by rw [h.hasLog]; exact g3,rfl⟩
      rw [(zgg hmi.l6).2 hbad]; simp only [Option.bind_some]
      rw [if_pos (by decide)]
      have h2:m.logState≠2 := by rcases g5 with g5 | g5 <;> rw [g5] <;> decide
      refine ⟨_,_,_,rfl,.inr (.inl ⟨rfl,hbad,hmi,⟨rfl,fun _ _=>Iff.rfl,⟨fun x=>(by cases x),fun x=>absurd x h2⟩,rfl,rfl⟩,⟨zw9 hok (hok.mono (by omega)) (fun _=>rfl) (fun _ _=>rfl) (fun _ _=>rfl) (fun _ _ hx=>absurd hx (by rw [g2]; decide)),hdn,id,fun _ _ _ _ _ _=>rfl⟩⟩)⟩
end
end Go.Proofs
namespace Go.Proofs
open Go.VG
structure Ff (C:MC) (K:Nat) (s:ArrS) (lv:LV) (i:Nat) (t:ArrS):Prop where
  ok:ArrOk C.ns K t
  dn:t.down=false
  fuse:t.fuse=s.fuse
  miss:∀ e,Go.Proofs.miss t e=Go.Proofs.miss s e
  log:∀ b,b < 3→Go.Proofs.now t C.L b=Go.Proofs.now s C.L b∧cand t C.L b=cand s C.L b
  now:∀ e b,Go.Proofs.now t e b=Go.Proofs.now s e b
  sub:∀ j,j < C.L→lv j=true → ∀ b,b < C.sz → ∀ c ∈ cand t j b,c ∈ cand s j b
  full:∀ j,j < C.L→lv j=true→j < i → ∀ b,b < C.sz→cand t j b=[Go.Proofs.now s j b]
structure ClD (C:MC) (K:Nat) (s:ArrS) (lv:LV) (t:ArrS):Prop where
  ok:ArrOk C.ns K t
  miss:∀ e,Go.Proofs.miss t e=Go.Proofs.miss s e
  leg:∀ e b,e < C.L→b < C.sz→now t e b=now s e b∧cand t e b=cand s e b
  head:lv C.L=true → ∀ c ∈ cand t C.L 0,c=headL C.R
  bit:lv C.L=true → ∀ c ∈ cand t C.L 1, ∀ r,r < C.R→tb c r=true → ∃ c' ∈ cand s C.L 1,tb c' r=true
structure Cl (C:MC) (K:Nat) (s:ArrS) (lv:LV) (t:ArrS):Prop extends ClD C K s lv t where
  dn:t.down=false
  fz:s.fuse=0→t.fuse=0
structure FlD (C:MC) (K:Nat) (s:ArrS) (lv:LV) (t:ArrS):Prop where
  ok:ArrOk C.ns K t
  miss:∀ e,Go.Proofs.miss t e=Go.Proofs.miss s e
  now:∀ e b,e < C.L→b < C.sz→Go.Proofs.now t e b=Go.Proofs.now s e b
  sub:∀ j,j < C.L→lv j=true → ∀ b,b < C.sz → ∀ c ∈ cand t j b,c ∈ cand s j b
  head:lv C.L=true → ∀ c ∈ cand t C.L 0,c=headL C.R
  c:lv C.L=true→(∀ r,r < C.R→SetB C s r→SetB C t r) ∨ ∀ j,j < C.L→lv j=true → ∀ b,b < C.sz→cand t j b=[Go.Proofs.now s j b]
  bit:lv C.L=true → ∀ c ∈ cand t C.L 1, ∀ r,r < C.R→tb c r=true → ∃ c' ∈ cand s C.L 1,tb c' r=true
structure Fl (C:MC) (K:Nat) (s:ArrS) (lv:LV) (t:ArrS):Prop extends FlD C K s lv t where
  dn:t.down=false
  fz:s.fuse=0→t.fuse=0
section
variable {C:MC} {K a i r:Nat} {s t u y:ArrS} {lv:LV} {m m' x:MirS} {w v:UInt64}
theorem Ff.start (hok:ArrOk C.ns K s) (hdn:s.down=false):Ff C K s lv 0 s :=
  ⟨hok,hdn,rfl,fun _=>rfl,fun _ _=>⟨rfl,rfl⟩,fun _ _=>rfl,fun _ _ _ _ _ _ h=>h,fun _ _ _ h=>absurd h (by omega)⟩
theorem Ff.same (h:Ff C K s lv i t) (hl:i < C.L→lv i=false):Ff C K s lv (i + 1) t :=
  ⟨h.ok,h.dn,h.fuse,h.miss,h.log,h.now,h.sub,fun j hj hlj hji=>by
    by_cases e:j=i
    · subst e; rw [hl hj] at hlj; cases hlj
    · exact h.full j hj hlj (by omega)⟩
theorem Ff.put (h:Ff C K s lv i t) (hi:i < C.L) (h1:Flushed1 C.ns K t i u):Ff C K s lv (i + 1) u := by
  have hc:∀ e b,e < C.L→b < C.sz→cand u e b=if i=e then [Go.Proofs.now t e b] else cand t e b := fun e b he hb=>h1.cand e b (by rw [MC.len]; omega) (by rw [MC.leg he]; exact hb)
  refine ⟨h1.ok,h1.dn,h1.fuse.trans h.fuse,fun e=>by rw [h1.miss,h.miss],fun b hb => ?_,fun e b=>by rw [h1.now,h.now],fun j hj hlj b hb c hcc => ?_,fun j hj hlj hji b hb => ?_⟩
  · rw [h1.now,h1.cand C.L b logL (by rw [MC.log]; exact hb),if_neg (by omega)]; exact h.log b hb
  · rw [hc j b hj hb] at hcc
    split at hcc
    · rw [List.mem_singleton.1 hcc]
      exact h.sub j hj hlj b hb _ (h.ok.now_cand (by rw [MC.len]; omega) (by rw [MC.leg hj]; exact hb))
    · exact h.sub j hj hlj b hb c hcc
  · rw [hc j b hj hb]
    split
    · rw [h.now]
    · exact h.full j hj hlj (by omega) b hb
theorem ztp (h:MI C s lv m) (hok:ArrOk C.ns K s) (hdn:s.down=false) (hK:K≤1000000) :
    ∃ e m' t,zhp m s=some (e,m',t)∧Fd s m m' 0∧Ff C K s lv C.L t∧(e=0∧NF m' ∨ e=18 ∧ ¬ NF m') := by
  have hF := zbp
  have hL := C.hL
  unfold zhp
  obtain ⟨e,x',y',e1,e2⟩ := zjw (r:=zfl m s) rfl (P:=fun x y=>Fd s m x 0∧Ff C K s lv m.legs.length y) (Q:=fun _ _=>False) (fun x y hp=>h.l6' hp.1)
    (zix (L:=m.legs.length) (f:=zdz m) (ch:=fun i=>zjc ((i:Nat):Int)) (act:=fun i x y=>zet ((i:Nat):Int) x y) (fun _ _ _ _=>rfl)
      (c:=fun _=>true) (fun i _=>rfl) (fun i x y=>Fd s m x 0∧Ff C K s lv i y) (fun _ _=>False) (fun i x y hp=>hp.1.len)
      (fun i x y hi hp hst _=>by
        obtain ⟨hp,hq⟩ := hp
        rw [h.len] at hi
        have hx := (h.fd hp).arr hq.miss hq.log
        have hun:∀ o,zet ((i:Nat):Int) x y=Option.bind o (fun r8=>some (r8.1,r8.2))→zet ((i:Nat):Int) x y=o := fun o ho=>by rw [ho]; cases o <;> rfl
        have hw:zet ((i:Nat):Int) x y=(xL i C.sz).fl y := hun _ (by unfold zet; rw [hx.gI hi,Int.toNat_natCast,hx.dev hi])
        rw [hw]
        rcases hx.good hi hst with ⟨g1,g2⟩ | ⟨g1,g2⟩
        · obtain ⟨k1,k2⟩ := hq.ok.flA (d:=i) hq.dn (by rw [MC.len]; omega) g2
          rw [zq4 hq.ok hK hi,k1]
          exact ⟨0,_,rfl,.inl ⟨rfl,hp,hq.put hi k2⟩⟩
        · rw [z3w hq.ok hq.dn hK hi g2]
          exact ⟨6,_,rfl,.inr (.inr ⟨by decide,by decide,(hp.fail (by rw [h.len]; exact hi) hst (by rw [← hq.miss]; exact g2)).to,hq.same (fun _=>g1)⟩)⟩)
      (fun i x y hi hp hc=>by
        obtain ⟨hp,hq⟩ := hp
        rw [h.len] at hi
        rcases hc with hc | hc
        · refine ⟨hp,hq.same (fun _ => ?_)⟩
          cases hl:lv i
          · rfl
          · exact absurd ((h.fd hp).live hi hl).1 hc
        · cases hc) FUEL 0 m s (by have := h.l6; omega) (by omega) ⟨Fd.refl,Ff.start hok hdn⟩)
  rw [e1]; simp only [Option.bind_some]
  rw [h.len] at e2
  rcases e2 with ⟨rfl,e2,e3,e4⟩ | ⟨rfl,e2,e3,e4⟩ | ⟨-,e2⟩
  · exact ⟨_,_,_,rfl,e3,e4,.inl ⟨rfl,e2⟩⟩
  · exact ⟨_,_,_,rfl,e3,e4,.inr ⟨rfl,e2⟩⟩
  · exact e2.elim
theorem Cl.refl (hok:ArrOk C.ns K s) (hdn:s.down=false) (hh:lv C.L=true → ∀ c ∈ cand s C.L 0,c=headL C.R):Cl C K s lv s :=
  ⟨⟨hok,fun _=>rfl,fun _ _ _ _=>⟨rfl,rfl⟩,hh,fun _ c hc _ _ hb=>⟨c,hc,hb⟩⟩,hdn,id⟩
theorem Cl.lg {q:Nat→Prop} (h:Cl C K s lv t) (h1:Lg C K t u (fun _=>False) q) (hh:lv C.L=true → ∀ c ∈ cand u C.L 0,c=headL C.R):Cl C (K + 1) s lv u :=
  ⟨⟨h1.ok,fun e=>by rw [h1.miss,h.miss],fun e b he hb=>⟨(h1.leg e b he hb).1.trans (h.leg e b he hb).1,(h1.leg e b he hb).2.trans (h.leg e b he hb).2⟩,hh,fun hl c hc r hr hb=>by
    rcases h1.bit c hc r hr hb with x | ⟨c',k1,k2⟩
    · exact x.elim
    · exact h.bit hl c' k1 r hr k2⟩,h1.dn,fun hf=>h1.fz (h.fz hf)⟩
theorem Cl.mono {K':Nat} (h:Cl C K s lv t) (hK:K≤K'):Cl C K' s lv t := ⟨⟨h.ok.mono hK,h.miss,h.leg,h.head,h.bit⟩,h.dn,h.fz⟩
theorem Cl.fell (h:Cl C K s lv t) (h1:Fell C.ns K t u):ClD C K s lv u :=
  ⟨h1.ok,fun e=>by rw [h1.miss,h.miss],fun e b he hb=>by rw [h1.now,h1.cand]; exact h.leg e b he hb,fun hl c hc=>h.head hl c (by rw [h1.cand] at hc; exact hc),fun hl c hc r hr hb=>h.bit hl c (by rw [h1.cand] at hc; exact hc) r hr hb⟩
theorem zve {l:List Int} (hl:∀ k,k < l.length → ∃ r:Nat,r < C.R∧l.getD k 0=r) (hl2:l.length≤12):∀ (N k:Nat) (x:MirS) (y:ArrS),l.length - k < N→k≤l.length→K + l.length≤900000→MI C y lv x→NF x→Mk m x→(∃ g,x.log=some g)→Cl C (K + k) s lv y →
    (∃ x' y',zeg l N x y k=some (.inl (x',y'))∧MI C y' lv x' ∧ NF x' ∧ Mk m x' ∧ Cl C (K + l.length) s lv y') ∨
    (∃ e x' y',zeg l N x y k=some (.inr (e,x',y'))∧(e=18 ∧ ¬ NF x' ∧ MI C y' lv x' ∧ Mk m x' ∧ Cl C (K + l.length) s lv y' ∨ e=5∧s.fuse≠0∧ClD C (K + l.length) s lv y'))
  | 0,_,_,_,h,_,_,_,_,_,_,_=>absurd h (by omega)
  | N + 1,k,x,y,hN,hk,hK,h,hnf,hmk,⟨g,hg⟩,hc=>by
    have hrec := fun x y (hlt:k < l.length)=>zve hl hl2 N (k + 1) x y (by omega) (by omega) hK
    have hu:zeg l (N + 1) x y k=zg6 l (zeg l N) x y k := rfl
    rw [hu]
    unfold zg6
    by_cases hlt:k < l.length
    · obtain ⟨r,hr,her⟩ := hl k hlt
      rw [if_pos (by omega),her,grd_t (decide_eq_true ⟨Int.natCast_nonneg _,by rw [h.dl]; exact Int.ofNat_lt.2 hr⟩),Int.toNat_natCast]
      by_cases hd:x.dirty.getD r false=true
      · rw [if_pos hd,grd_t (zdy (by omega))]
        exact hrec x y hlt h hnf hmk ⟨g,hg⟩ (hc.mono (by omega))
      · rw [if_neg hd]
        rcases zuf h with ⟨g1,g2⟩ | ⟨g',g1,g2,g3,g4,g5⟩ | ⟨g',g1,g2,g3,g4,g5,g6⟩
        · rw [hg] at g1; cases g1
        · rw [hg] at g1; cases g1
          rw [hg]; simp only [Option.elim_some]
          obtain ⟨e,gg,y',k1,k2⟩ := zzl hc.ok hc.dn (by omega) g4 g5 hr
          rw [k1]; simp only [Option.bind_some]
          rcases k2 with ⟨rfl,k3,k4⟩ | ⟨rfl,k3,k4⟩
          · rw [zlg (.inl rfl)]; simp only [Option.bind_some]
            have hmi := h.withLog_live g2 g3 k4.miss g4 k3 (fun q hq hdq=>k4.set q hq (fun e=>hd (by rw [← e]; exact hdq)) (h.d g2 q hq hdq))
            have hml:({ x with log := some gg } : MirS)=zn0 x gg := rfl
            rw [if_neg (by simp),hml,(zgg hmi.l6).1 (znx hnf)]; simp only [Option.bind_some]
            rw [if_neg (by simp),grd_t (zdy (by omega))]
            exact hrec _ _ hlt hmi (znx hnf) (hmk.trans zny) ⟨_,rfl⟩ (hc.lg k4 (fun _=>k3.head))
          · rw [zlg (.inr rfl)]; simp only [Option.bind_some]
            rw [if_pos (by decide)]
            refine .inr ⟨_,_,_,rfl,.inr ⟨rfl,fun hf=>(by rw [hc.fz hf] at k3; cases k3),?_⟩⟩
            have := hc.fell k4
            exact ⟨this.ok.mono (by omega),this.miss,this.leg,this.head,this.bit⟩
        · rw [hg] at g1; cases g1
          rw [hg]; simp only [Option.elim_some]
          obtain ⟨gg,k1,k2⟩ := zzm hc.ok hc.dn (by omega) g4 g6 hr
          rw [k1]; simp only [Option.bind_some]
          have hnl := zw3 (m := { x with log := some gg }) (s:=y) (e:=6) (by decide) (by decide)
          have hlen:({ x with log := some gg } : MirS).legs.length=x.legs.length := rfl
          rw [hlen] at hnl
          rw [hnl]; simp only [Option.bind_some]
          rw [if_neg (by simp)]
          have hmi := h.withLog_miss (z:=1) g2 g3 g4 (.inr rfl) k2
          have hbad:¬ NF ({ x with log := some gg,logState := 1 } : MirS) := fun hx=>hx.log ⟨by rw [h.hasLog]; exact g3,rfl⟩
          rw [(zgg hmi.l6).2 hbad]; simp only [Option.bind_some]
          rw [if_pos (by decide)]
          have h2:x.logState≠2 := by rcases g5 with g5 | g5 <;> rw [g5] <;> decide
          refine .inr ⟨_,_,_,rfl,.inl ⟨rfl,hbad,hmi,hmk.trans ⟨rfl,fun _ _=>Iff.rfl,⟨fun x=>(by cases x),fun x=>absurd x h2⟩,rfl,rfl⟩,hc.mono (by omega)⟩⟩
    · rw [if_neg (by omega)]
      exact .inl ⟨x,y,rfl,h,hnf,hmk,hc.mono (by omega)⟩
theorem ztq {l:List UInt64} {n k:Nat} (hk:k < (zhz l n).length):∃ r:Nat,r < n∧(zhz l n).getD k 0=r := by
  have h1:(zhz l n).getD k 0 ∈ zhz l n := by
    simp only [List.getD,List.getElem?_eq_getElem hk,Option.getD_some]; exact List.getElem_mem hk
  unfold zhz at h1
  obtain ⟨r,hr,e⟩ := List.mem_map.1 h1
  exact ⟨r,List.mem_range.1 (List.mem_filter.1 hr).1,e.symm⟩
theorem Ff.head0 (h:MI C s lv m):lv C.L=true → ∀ c ∈ cand s C.L 0,c=headL C.R := fun hl=>by
  rcases h.log with ⟨-, -, -,g, -,h5⟩ | ⟨h1, -⟩
  · exact h5.head
  · rw [hl] at h1; cases h1
theorem Ff.fl (h:Ff C K s lv C.L t) (_h0:MI C s lv m) (hcl:ClD C (K + 12) t lv u):FlD C (K + 12) s lv u ∧ ∀ j,j < C.L→lv j=true → ∀ b,b < C.sz→cand u j b=[Go.Proofs.now s j b] := by
  have hfull:∀ j,j < C.L→lv j=true → ∀ b,b < C.sz→cand u j b=[Go.Proofs.now s j b] := fun j hj hlj b hb=>by rw [(hcl.leg j b hj hb).2]; exact h.full j hj hlj hj b hb
  refine ⟨⟨hcl.ok,fun e=>by rw [hcl.miss,h.miss],fun e b he hb=>by rw [(hcl.leg e b he hb).1,h.now],fun j hj hlj b hb c hc => ?_,hcl.head,fun _ => .inr hfull,fun hl c hc r hr hb => ?_⟩,hfull⟩
  · rw [(hcl.leg j b hj hb).2] at hc; exact h.sub j hj hlj b hb c hc
  · obtain ⟨c',k1,k2⟩ := hcl.bit hl c hc r hr hb
    rw [(h.log 1 (by decide)).2] at k1
    exact ⟨c',k1,k2⟩
theorem zxa (h:MI C s lv m) (hnf:NF m) (hok:ArrOk C.ns K s) (hdn:s.down=false) (hK:K + 16≤900000) :
    ∃ e m' t,zgj m s=some (e,m',t) ∧
      (e=0∧NF m' ∧ MI C t lv m' ∧ Mk m m' ∧ Fl C (K + 12) s lv t∧(∀ j,j < C.L→lv j=true → ∀ b,b < C.sz→cand t j b=[now s j b]) ∨
       e=18 ∧ ¬ NF m' ∧ MI C t lv m' ∧ Mk m m' ∧ Fl C (K + 12) s lv t ∨
       e=5∧s.fuse≠0∧FlD C (K + 12) s lv t) := by
  have hF := zbp
  have hR := C.hR
  unfold zgj
  rw [(zgg h.l6).1 hnf]; simp only [Option.bind_some]
  rw [if_neg (by simp)]
  obtain ⟨e,m1,s1,e1,e2,e3,e4⟩ := ztp h hok hdn (by omega)
  rw [e1]; simp only [Option.bind_some]
  have hm1 := (h.fd e2).arr e3.miss e3.log
  have hhd := Ff.head0 hm1
  rcases e4 with ⟨rfl,e4⟩ | ⟨rfl,e4⟩
  · rw [if_neg (by simp)]
    have hcl0:Cl C K s1 lv s1 := Cl.refl e3.ok e3.dn hhd
    have hfin:∀ {m2:MirS} {t:ArrS},MI C t lv m2→Mk m1 m2→Cl C (K + 12) s1 lv t→MI C t lv m2∧Mk m m2∧Fl C (K + 12) s lv t ∧ ∀ j,j < C.L→lv j=true → ∀ b,b < C.sz→cand t j b=[now s j b] := fun hmi hmk hc=>by
      obtain ⟨f1,f2⟩ := e3.fl h hc.toClD
      exact ⟨hmi,e2.mks.trans hmk,⟨f1,hc.dn,fun hf=>hc.fz (by rw [e3.fuse]; exact hf)⟩,f2⟩
    cases hlog:m1.log with
    | none =>
      simp only [Option.elim_none]
      have e:({ m1 with log := none } : MirS)=m1 := by cases m1; cases hlog; rfl
      rw [e]
      obtain ⟨f1,f2,f3,f4⟩ := hfin hm1 Mk.refl (hcl0.mono (by omega))
      exact ⟨_,_,_,rfl,.inl ⟨rfl,e4,f1,f2,f3,f4⟩⟩
    | some g =>
      have hok':LogOk C.L 3 C.R g := by
        rcases hm1.log with ⟨-, -, -,g',q1,q2⟩ | ⟨-,⟨q1, -⟩ | ⟨-, -, -,g',q1,q2⟩⟩
        · rw [hlog] at q1; cases q1; exact q2.lok
        · rw [hlog] at q1; cases q1
        · rw [hlog] at q1; cases q1; exact q2
      simp only [Option.elim_some]
      rw [zwy hok'.reg (by rw [hok'.len,MC.nW1]; omega) (by omega)]; simp only [Option.bind_some]
      have e:(⟨m1.legs,some g,m1.hasLog,m1.logState,m1.size,m1.region,m1.dirty,m1.copied⟩:MirS)=m1 := by rw [← hlog]
      rw [e]
      have hle := @zq3 g.bits C.R
      rcases zve (l:=zhz g.bits C.R) (m:=m1) (K:=K) (s:=s1) (fun k hk=>ztq hk) (by omega) FUEL 0 m1 s1 (by omega) (by omega) (by omega) hm1 e4 Mk.refl ⟨g,hlog⟩ hcl0 with ⟨x',y',k1,k2,k3,k4,k5⟩ | ⟨e',x',y',k1,k2⟩
      · rw [k1,zd6]
        obtain ⟨f1,f2,f3,f4⟩ := hfin k2 k4 (k5.mono (by omega))
        exact ⟨_,_,_,rfl,.inl ⟨rfl,k3,f1,f2,f3,f4⟩⟩
      · rw [k1,zjv]
        rcases k2 with ⟨rfl,k2,k3,k4,k5⟩ | ⟨rfl,k2,k3⟩
        · obtain ⟨f1,f2,f3,f4⟩ := hfin k3 k4 (k5.mono (by omega))
          exact ⟨_,_,_,rfl,.inr (.inl ⟨rfl,k2,f1,f2,f3⟩)⟩
        · obtain ⟨f1, -⟩ := e3.fl h (u:=y') ⟨k3.ok.mono (by omega),k3.miss,k3.leg,k3.head,k3.bit⟩
          exact ⟨_,_,_,rfl,.inr (.inr ⟨rfl,by rw [← e3.fuse]; exact k2,f1⟩)⟩
  · rw [if_pos (by decide)]
    refine ⟨_,_,_,rfl,.inr (.inl ⟨rfl,e4,hm1,e2.mks,⟨⟨e3.ok.mono (by omega),e3.miss,fun e b _ _=>e3.now e b,e3.sub,hhd,fun hl => .inl (fun r hr hs c hc=>hs c (by rw [(e3.log 1 (by decide)).2] at hc; exact hc)),fun _ c hc r hr hb=>⟨c,by rw [(e3.log 1 (by decide)).2] at hc; exact hc,hb⟩⟩,e3.dn,fun hf=>by rw [e3.fuse]; exact hf⟩⟩)⟩
end
end Go.Proofs
namespace Go.Proofs
open Go.VG
theorem zxb {s:ArrS} (h8:s.drv.length≤1000) (hz:∀ i,i < s.drv.length→1≤s.size i∧s.size i≤65536):∀ (N i:Nat) (acc:List Dvc),s.drv.length - i < N→i≤s.drv.length →
    acc=(List.range i).map (fun i=>Dvc.span ((i:Nat):Int) 0 ((s.size i:Nat):Int))→zgy s N acc i=some (.inl (zjq s))
  | 0,_,_,h,_,_=>absurd h (by omega)
  | N + 1,i,acc,h,hi,ha=>by
    show zf8 _ _ _ _=_
    unfold zf8
    subst ha
    by_cases hlt:i < s.drv.length
    · have h1 := hz i hlt
      rw [if_pos (by omega),zog hlt,z3m (by omega) (by omega) (by rw [zog hlt]; omega) (by rw [zog hlt]; omega)]
      simp only [Option.bind_some,Option.elim]
      rw [if_neg (by simp),grd_t (zd5 (by simp; omega)),grd_t (zdy (by omega))]
      refine zxb h8 hz N (i + 1) _ (by omega) (by omega) ?_
      simp [List.range_succ]
    · rw [if_neg (by omega)]
      have:i=s.drv.length := by omega
      rw [this]; rfl
theorem zxc {s:ArrS} (h8:s.drv.length≤1000) (hz:∀ i,i < s.drv.length→1≤s.size i∧s.size i≤65536):zfp s=some (zjq s) := by
  unfold zfp
  have hF := zbp
  generalize FUEL=N at hF ⊢
  rw [zxb h8 hz N 0 _ (by omega) (by omega) (by simp)]; rfl
end Go.Proofs
namespace Go.Proofs
open Go.VG
section
variable {C:MC} {K a i r:Nat} {s t u y:ArrS} {lv:LV} {m m' x:MirS} {w v:UInt64} {st:List Int}
theorem regI:IntKind.i64.wrap (((C.sz:Int) - 1).tdiv (C.rg:Int))=(((C.sz - 1) / C.rg:Nat):Int) := by
  have h1:(C.sz:Int) - 1=((C.sz - 1:Nat):Int) := by have := C.hs; omega
  rw [h1]
  have h2:((C.sz - 1:Nat):Int).tdiv (C.rg:Int)=(((C.sz - 1) / C.rg:Nat):Int) := (Int.ofNat_tdiv _ _).symm
  have h3:(C.sz - 1) / C.rg≤C.sz - 1 := Nat.div_le_self _ _
  have h4 := C.hs
  rw [h2]
  generalize (C.sz - 1) / C.rg=q at h3 ⊢
  exact ziu (by omega) (by omega)
theorem ztr:zhc (C.sz:Int) (C.rg:Int)=some (C.R:Int) := by
  have h1 := C.hs
  have h2 := C.hr
  have hR := C.hR
  unfold zhc
  rw [if_neg (by omega),grd_t (zdo (by omega)),regI]
  have e:(((C.sz - 1) / C.rg:Nat):Int) + 1=(C.R:Int) := rfl
  rw [e,grd_t (zdo (by omega))]
theorem zvt:zha (C.sz:Int) (C.rg:Int)=some (C.R:Int) := by
  have h1 := C.hs
  have h2 := C.hr
  have hR := C.hR
  unfold zha
  rw [if_neg (by omega),grd_t (zdo (by omega)),regI]
  have e:(((C.sz - 1) / C.rg:Nat):Int) + 1=(C.R:Int) := rfl
  rw [e,grd_t (zdo (by omega))]
def legM (C:MC) (st:List Int) (i:Nat):mlegS := ⟨xL i C.sz,if (i:Int) ∈ st then 2 else 0,0⟩
def legsM (C:MC) (st:List Int) (n:Nat):List mlegS := (List.range n).map (legM C st)
theorem z2j {n:Nat} (h:i < n):(legsM C st n).getD i mleg_x0=legM C st i := by simp [legsM,List.getD,h]
theorem zq7 {n:Nat} : (legsM C st n).length=n := by simp [legsM]
theorem zts {n:Nat} : legsM C st (n + 1)=legsM C st n ++ [legM C st n] := by simp [legsM,List.range_succ]
theorem zys {n:Int} : ∀ (l:List Int) (_:∀ k ∈ l,0≤k∧k≤n) (N i:Nat),l.length - i < N→i≤l.length→zch l n N i=some (.inl ())
  | _,_,0,_,h,_=>absurd h (by omega)
  | l,hl,N + 1,i,h,hi=>by
    have hu:zch l n (N + 1) i=zdl l n (zch l n N) i := rfl
    rw [hu]
    unfold zdl
    by_cases hlt:i < l.length
    · rw [if_pos (by omega)]
      unfold zlu
      have hk := hl (l.getD i 0) (by simp [List.getD,hlt])
      simp only [Option.bind_some]
      rw [if_neg (by rw [Bool.or_eq_true,decide_eq_true_iff,decide_eq_true_iff]; omega)]
      exact zys l hl N (i + 1) (by omega) (by omega)
    · rw [if_neg (by omega)]
theorem zo2 {n:Int} {l:List Int} (hl:∀ k ∈ l,0≤k∧k≤n) (hlen:l.length≤1000000):zc2 l n=some false := by
  unfold zc2 zff
  have hF := zbp
  rw [zys l hl FUEL 0 (by omega) (by omega),zd6]; rfl
def openB (legs:List Dvc) (staleLegs:List Int) (s:ArrS) (rec:MirS→Nat→Nat→Option (Nat × MirS)) (x33:MirS) (x34:Nat) (x35:Nat):Option (Nat × MirS) :=
  if (((x35:Nat):Int) < ((legs.length:Nat):Int)) then
    Option.bind (zdw staleLegs (((x35:Nat):Int))) fun r38 =>
    Option.bind ((
      if r38=true then
        some (x34,2)
      else
        grd (inN64 (x34 + 1)) <|
        some (((x34 + 1),0)):Option (Nat × Nat))) fun a45 =>
    grd (inLen (x33.legs.length + 1)) <|
    Option.bind (Dvc.size (legs.getD x35 dv0) s) fun r63 =>
    rec ((⟨(x33.legs ++ [(⟨(legs.getD x35 dv0),((a45.2:Nat):Int),(0:Int)⟩:mlegS)]),x33.log,x33.hasLog,x33.logState,(min x33.size r63),x33.region,x33.dirty,x33.copied⟩:MirS)) a45.1 (x35 + 1)
  else
    some (x34,x33)
theorem zng {f:Nat→MirS→Nat→Nat→Option (Nat × MirS)} {legs:List Dvc} (hf:∀ n x p i,f (n + 1) x p i=openB legs st s (f n) x p i) (hll:legs.length=C.L) (hlx:∀ i,i < C.L→legs.getD i dv0=xL i C.sz) (hst:st.length≤1000000) {lg:Bool} {reg:Int} :
    ∀ (N i p:Nat),C.L - i < N→i≤C.L→p≤i→((∃ j,j < i∧(j:Int) ∉ st)→0 < p) → ∃ q,((∃ j,j < C.L∧(j:Int) ∉ st)→0 < q)∧f N ⟨legsM C st i,none,lg,0,(C.sz:Int),reg,[],0⟩ p i=some (q,⟨legsM C st C.L,none,lg,0,(C.sz:Int),reg,[],0⟩)
  | 0,_,_,h,_,_,_=>absurd h (by omega)
  | N + 1,i,p,hN,hi,hp,hq=>by
    have hrec := fun p=>zng hf hll hlx hst (lg:=lg) (reg:=reg) N (i + 1) p
    have hL := C.hL
    rw [hf]
    unfold openB
    by_cases hlt:i < C.L
    · have hsz:Dvc.size (xL i C.sz) s=some (C.sz:Int) := zne
      rw [if_pos (by rw [hll]; omega),zh0 hst,hlx i hlt,hsz]; simp only [Option.bind_some,zq7]
      have hmin:min (C.sz:Int) (C.sz:Int)=C.sz := by omega
      by_cases hm:(i:Int) ∈ st
      · rw [if_pos (by simpa using hm)]; simp only [Option.bind_some]
        rw [grd_t (zd5 (by omega)),hmin]
        have e:legsM C st i ++ [(⟨xL i C.sz,((2:Nat):Int),0⟩:mlegS)]=legsM C st (i + 1) := by rw [zts]; unfold legM; rw [if_pos hm]; rfl
        rw [e]
        refine hrec p (by omega) (by omega) (by omega) (fun ⟨j,hj,hjn⟩=>hq ⟨j,?_,hjn⟩)
        rcases Nat.lt_or_ge j i with x | x
        · exact x
        · have:j=i := by omega
          subst this; exact absurd hm hjn
      · rw [if_neg (by simpa using hm),grd_t (zdy (by omega))]; simp only [Option.bind_some]
        rw [grd_t (zd5 (by omega)),hmin]
        have e:legsM C st i ++ [(⟨xL i C.sz,((0:Nat):Int),0⟩:mlegS)]=legsM C st (i + 1) := by rw [zts]; unfold legM; rw [if_neg hm]; rfl
        rw [e]
        exact hrec (p + 1) (by omega) (by omega) (by omega) (fun _=>by omega)
    · rw [if_neg (by rw [hll]; omega)]
      have:i=C.L := by omega
      subst this
      exact ⟨p,hq,rfl⟩
theorem setB' {l:List Bool} {i j:Nat} {v:Bool} (h:i < l.length):(l.set i v).getD j false=if j=i then v else l.getD j false := by
  simp only [List.getD,List.getElem?_set]
  by_cases e:i=j
  · subst e; simp [h]
  · rw [if_neg e,if_neg (fun x=>e x.symm)]
theorem zsn {f:Nat→MirS→Nat→Option MirS} {R:Nat} (hR:R≤1000000) (hf:∀ n x i,f (n + 1) x i=if (((i:Nat):Int) < ((((List.replicate (((R:Nat):Int)).toNat false)).length:Nat):Int)) then grd (decide (i < x.dirty.length)) <| grd (inN64 (i + 1)) <| f n ({ x with dirty := (x.dirty.set i true) }) (i + 1) else some x) :
    ∀ (N i:Nat) (x:MirS),R - i < N→i≤R→x.dirty.length=R→(∀ r,r < i→x.dirty.getD r false=true) → ∃ d:List Bool,d.length=R∧(∀ r,r < R→d.getD r false=true)∧f N x i=some { x with dirty := d }
  | 0,_,_,h,_,_,_=>absurd h (by omega)
  | N + 1,i,x,hN,hi,hl,hd=>by
    rw [hf]
    by_cases hlt:i < R
    · rw [if_pos (by simp; omega),grd_t (decide_eq_true (by omega)),grd_t (zdy (by omega))]
      obtain ⟨d,h1,h2,h3⟩ := zsn hR hf N (i + 1) { x with dirty := x.dirty.set i true } (by omega) (by omega) (by simp [hl]) (fun r hr=>by
        show (x.dirty.set i true).getD r false=true
        rw [setB' (by omega)]
        split
        · rfl
        · exact hd r (by omega))
      exact ⟨d,h1,h2,h3⟩
    · rw [if_neg (by simp; omega)]
      exact ⟨x.dirty,hl,fun r hr=>hd r (by omega),rfl⟩
theorem zyt {l:List Int} {R:Nat} (hl:∀ k,k < l.length → ∃ r:Nat,r < R∧l.getD k 0=r) (hl2:l.length≤1000000):∀ (N k:Nat) (x:MirS),l.length - k < N→k≤l.length→x.dirty.length=R →
    ∃ d:List Bool,d.length=R∧(∀ r:Nat,r < R→(d.getD r false=true↔x.dirty.getD r false=true ∨ ∃ q,k≤q∧q < l.length∧l.getD q 0=(r:Int)))∧zip l N x k=some { x with dirty := d }
  | 0,_,_,h,_,_=>absurd h (by omega)
  | N + 1,k,x,hN,hk,hd=>by
    have hu:zip l (N + 1) x k=zja l (zip l N) x k := rfl
    rw [hu]
    unfold zja
    by_cases hlt:k < l.length
    · obtain ⟨r,hr,her⟩ := hl k hlt
      rw [if_pos (by omega),her,grd_t (decide_eq_true ⟨Int.natCast_nonneg _,by rw [hd]; exact Int.ofNat_lt.2 hr⟩),grd_t (zdy (by omega)),Int.toNat_natCast]
      obtain ⟨d,h1,h2,h3⟩ := zyt hl hl2 N (k + 1) { x with dirty := x.dirty.set r true } (by omega) (by omega) (by simp [hd])
      refine ⟨d,h1,fun q hq => ?_,h3⟩
      rw [h2 q hq]
      show ((x.dirty.set r true).getD q false=true∨_)↔_
      rw [setB' (by omega)]
      by_cases e:q=r
      · subst e
        rw [if_pos rfl]
        exact ⟨fun _ => .inr ⟨k,Nat.le_refl _,hlt,her⟩,fun _ => .inl rfl⟩
      · rw [if_neg e]
        refine or_congr Iff.rfl ⟨fun ⟨q',g1,g2,g3⟩=>⟨q',by omega,g2,g3⟩,fun ⟨q',g1,g2,g3⟩=>⟨q',?_,g2,g3⟩⟩
        rcases Nat.lt_or_ge k q' with y | y
        · exact y
        · have:q' = k := by omega
          subst this
          rw [her] at g3
          exact absurd (by omega) e
    · rw [if_neg (by omega)]
      refine ⟨x.dirty,hd,fun r _ => ?_,rfl⟩
      exact ⟨fun h => .inl h,fun h=>h.elim id (fun ⟨q,g1,g2,_⟩=>by omega)⟩
theorem zzn {l:List UInt64} {n r:Nat} (hr:r < n):(∃ q,0≤q∧q < (zhz l n).length∧(zhz l n).getD q 0=(r:Int))↔bitR l r=true := by
  have hm:(r:Int) ∈ zhz l n↔bitR l r=true := by
    unfold zhz
    rw [List.mem_map]
    constructor
    · rintro ⟨q,hq,e⟩
      have := (List.mem_filter.1 hq).2
      have e':q=r := by omega
      rw [e'] at this; simpa using this
    · intro h
      exact ⟨r,List.mem_filter.2 ⟨List.mem_range.2 hr,by simpa using h⟩,rfl⟩
  rw [← hm,List.mem_iff_getElem]
  constructor
  · rintro ⟨q, -,hq,e⟩
    exact ⟨q,hq,by simpa [List.getD,hq] using e⟩
  · rintro ⟨q,hq,e⟩
    exact ⟨q,by omega,hq,by simp [List.getD,hq,e]⟩
end
end Go.Proofs
namespace Go.Proofs
open Go.VG
section
variable {C:MC} {K a i r:Nat} {s t u y:ArrS} {lv:LV} {m m' x:MirS} {w v:UInt64} {st:List Int} {legs:List Dvc}
theorem z00 {R:Nat} (hR:1≤R∧R≤12) (hok:ArrOk C.ns K s) (hdn:s.down=false) (hm:miss s C.L=true):zin (xL C.L 3) (R:Int) s=some (none,6) := by
  have hnW:nW R=1 := by unfold nW; omega
  have hF := zbp
  have hns:C.ns.getD C.L 0=3 := MC.log
  unfold zin
  rw [zww logL hns (by decide) ⟨hR.1,by omega⟩,if_neg (by rw [hnW]; omega)]; simp only [Option.bind_some]
  rw [if_neg (by simp),ztl ⟨hR.1,by omega⟩,hnW]; simp only [Option.bind_some]
  have hrd:∃ w,(xL C.L 3).rd s (0:Int)=some (w,6) := by
    have h1 := hok.rdM (d:=C.L) (a:=0) hdn logL (by rw [hns]; decide) hm
    rw [span_rd (by omega) (by omega),if_pos (by omega)]
    have e:((0:Nat):Int) + (0:Int)=((0:Nat):Int) := by omega
    rw [e,h1]; exact ⟨_,rfl⟩
  obtain ⟨w,hrd⟩ := hrd
  have hra:zi1 (xL C.L 3) (0:Int) ((1 + 1:Nat):Int) s=some ([],6) := by
    unfold zi1
    have hsz:(xL C.L 3).size s=some ((3:Nat):Int) := zne
    rw [hsz]; simp only [Option.bind_some]
    rw [zsi (by omega) (by omega)]; simp only [Option.bind_some]
    rw [if_neg (by simp)]
    obtain ⟨N,hN⟩:∃ N,FUEL=N + 1 := ⟨FUEL - 1,by omega⟩
    have hu:zht (xL C.L 3) (0:Int) ((1 + 1:Nat):Int) s (N + 1) 0 []=zgz (xL C.L 3) (0:Int) ((1 + 1:Nat):Int) s (zht (xL C.L 3) (0:Int) ((1 + 1:Nat):Int) s N) 0 [] := rfl
    rw [hN,hu]
    unfold zgz
    have e:(0:Int) + ((0:Nat):Int)=0 := rfl
    rw [if_pos (by omega),e,grd_t (zdo (by omega)),hrd]; simp only [Option.bind_some]
    rw [if_pos (by simp),zjv]
  rw [hra]; simp only [Option.bind_some]
  rw [if_pos (by simp)]
structure OpH (C:MC) (s:ArrS) (legs:List Dvc) (st:List Int):Prop where
  ll:legs.length=C.L
  lx:∀ i,i < C.L→legs.getD i dv0=xL i C.sz
  rg:∀ k ∈ st,0≤k∧k≤(C.L:Int)
  sl:st.length≤1000000
  ex:∃ j,j < C.L∧(j:Int) ∉ st
theorem OpH.guard (h:OpH C s legs st):¬ ((((((legs.length:Nat):Int) < (2:Int))∨((6:Int) < ((legs.length:Nat):Int)))∨((C.rg:Int) < (1:Int)))∨((65536:Int) < (C.rg:Int))) := by
  have h1 := C.hL
  have h2 := C.hr
  rw [h.ll]; omega
theorem z01 {R:Nat} (hR:1≤R∧R≤12) (hreg:zhc (C.sz:Int) (C.rg:Int)=some (R:Int)) (h:OpH C s legs st):∃ d:List Bool,d.length=R∧(∀ r,r < R→d.getD r false=true)∧zi2 legs st (C.rg:Int) s=some (some ⟨legsM C st C.L,none,false,2,(C.sz:Int),(C.rg:Int),d,0⟩,0) := by
  have hL := C.hL
  have hnW:nW R=1 := by unfold nW; omega
  have hF := zbp
  unfold zi2
  generalize FUEL=N at hF ⊢
  rw [if_neg h.guard,zo2 (by rw [h.ll]; exact h.rg) h.sl]; simp only [Option.bind_some]
  have hsz:Dvc.size (legs.getD 0 dv0) s=some (C.sz:Int) := by rw [h.lx 0 (by omega)]; exact zne
  rw [if_neg (by simp),hsz]; simp only [Option.bind_some]
  obtain ⟨q,q1,q2⟩ := zng (f:=zjd legs st (C.rg:Int) s) (s:=s) (fun _ _ _ _=>rfl) h.ll h.lx h.sl (lg:=false) (reg:=(C.rg:Int)) N 0 0 (by omega) (by omega) (by omega) (fun ⟨j,hj,_⟩=>absurd hj (by omega))
  have e0:legsM C st 0=[] := rfl
  rw [e0] at q2
  rw [q2]; simp only [Option.bind_some]
  have := q1 h.ex
  rw [if_neg (by omega),hreg]; simp only [Option.bind_some]
  rw [grd_t (decide_eq_true ⟨by omega,by omega⟩),zh0 h.sl]; simp only [Option.bind_some]
  rw [if_pos (by simp)]
  obtain ⟨d,d1,d2,d3⟩ := zsn (f:=zje (R:Int)) (R:=R) (by omega) (fun _ _ _=>rfl) N 0 ⟨legsM C st C.L,none,false,2,(C.sz:Int),(C.rg:Int),List.replicate ((R:Int)).toNat false,0⟩ (by omega) (by omega) (by simp) (fun r hr=>absurd hr (by omega))
  rw [d3]
  exact ⟨d,d1,d2,rfl⟩
theorem z02 {R:Nat} (hR:1≤R∧R≤12) (hreg:zhc (C.sz:Int) (C.rg:Int)=some (R:Int)) (h:OpH C s legs st) (hok:ArrOk C.ns K s) (hdn:s.down=false) :
    ((C.L:Int) ∈ st → ∃ d:List Bool,d.length=R∧(∀ r,r < R→d.getD r false=true)∧zgc legs st (xL C.L 3) (C.rg:Int) s=some (some ⟨legsM C st C.L,none,true,2,(C.sz:Int),(C.rg:Int),d,0⟩,0)) ∧
    ((C.L:Int) ∉ st→miss s C.L=true→zgc legs st (xL C.L 3) (C.rg:Int) s=some (none,18)) ∧
    ((C.L:Int) ∉ st→miss s C.L=false→now s C.L 0=headL R → ∃ d:List Bool,d.length=R∧(∀ r,r < R→(d.getD r false=true↔tb (now s C.L 1) r=true))∧zgc legs st (xL C.L 3) (C.rg:Int) s=some (some ⟨legsM C st C.L,some (openL (xL C.L 3) R (now s C.L)),true,0,(C.sz:Int),(C.rg:Int),d,0⟩,0)) := by
  have hL := C.hL
  have hnW:nW R=1 := by unfold nW; omega
  have hF := zbp
  have hsz:Dvc.size (legs.getD 0 dv0) s=some (C.sz:Int) := by rw [h.lx 0 (by omega)]; exact zne
  have e0:legsM C st 0=[] := rfl
  have hlen:((((List.replicate ((R:Int)).toNat false)).length:Nat):Int)=(R:Int) := by simp
  refine ⟨fun h1 => ?_,fun h1 h2 => ?_,fun h1 h2 h3 => ?_⟩
  · unfold zgc
    generalize FUEL=N at hF ⊢
    obtain ⟨q,q1,q2⟩ := zng (f:=zio legs st (xL C.L 3) (C.rg:Int) s) (s:=s) (fun _ _ _ _=>rfl) h.ll h.lx h.sl (lg:=true) (reg:=(C.rg:Int)) N 0 0 (by omega) (by omega) (by omega) (fun ⟨j,hj,_⟩=>absurd hj (by omega))
    rw [e0] at q2
    have hq := q1 h.ex
    rw [if_neg h.guard,zo2 (by rw [h.ll]; exact h.rg) h.sl]; simp only [Option.bind_some]
    rw [if_neg (by simp),hsz]; simp only [Option.bind_some]
    rw [q2]; simp only [Option.bind_some]
    rw [if_neg (by omega),hreg]; simp only [Option.bind_some]
    rw [grd_t (decide_eq_true ⟨by omega,by omega⟩),zh0 h.sl]; simp only [Option.bind_some]
    rw [if_pos (.inl (by rw [h.ll]; exact decide_eq_true h1))]
    obtain ⟨d,d1,d2,d3⟩ := zsn (f:=zj6 (R:Int)) (R:=R) (by omega) (fun _ _ _=>rfl) N 0 ⟨legsM C st C.L,none,true,2,(C.sz:Int),(C.rg:Int),List.replicate ((R:Int)).toNat false,0⟩ (by omega) (by omega) (by simp) (fun r hr=>absurd hr (by omega))
    rw [d3]
    exact ⟨d,d1,d2,rfl⟩
  · unfold zgc
    generalize FUEL=N at hF ⊢
    obtain ⟨q,q1,q2⟩ := zng (f:=zio legs st (xL C.L 3) (C.rg:Int) s) (s:=s) (fun _ _ _ _=>rfl) h.ll h.lx h.sl (lg:=true) (reg:=(C.rg:Int)) N 0 0 (by omega) (by omega) (by omega) (fun ⟨j,hj,_⟩=>absurd hj (by omega))
    rw [e0] at q2
    have hq := q1 h.ex
    rw [if_neg h.guard,zo2 (by rw [h.ll]; exact h.rg) h.sl]; simp only [Option.bind_some]
    rw [if_neg (by simp),hsz]; simp only [Option.bind_some]
    rw [q2]; simp only [Option.bind_some]
    rw [if_neg (by omega),hreg]; simp only [Option.bind_some]
    rw [grd_t (decide_eq_true ⟨by omega,by omega⟩),zh0 h.sl]; simp only [Option.bind_some]
    rw [if_neg (by rintro (x | x); rw [h.ll] at x; exact h1 (of_decide_eq_true x); exact x trivial),hlen,z00 hR hok hdn h2]; simp only [Option.bind_some]
    rw [if_pos ⟨by decide,by decide⟩]
  · unfold zgc
    generalize FUEL=N at hF ⊢
    obtain ⟨q,q1,q2⟩ := zng (f:=zio legs st (xL C.L 3) (C.rg:Int) s) (s:=s) (fun _ _ _ _=>rfl) h.ll h.lx h.sl (lg:=true) (reg:=(C.rg:Int)) N 0 0 (by omega) (by omega) (by omega) (fun ⟨j,hj,_⟩=>absurd hj (by omega))
    rw [e0] at q2
    have hq := q1 h.ex
    rw [if_neg h.guard,zo2 (by rw [h.ll]; exact h.rg) h.sl]; simp only [Option.bind_some]
    rw [if_neg (by simp),hsz]; simp only [Option.bind_some]
    rw [q2]; simp only [Option.bind_some]
    rw [if_neg (by omega),hreg]; simp only [Option.bind_some]
    rw [grd_t (decide_eq_true ⟨by omega,by omega⟩),zh0 h.sl]; simp only [Option.bind_some]
    rw [if_neg (by rintro (x | x); rw [h.ll] at x; exact h1 (of_decide_eq_true x); exact x trivial),hlen,z3u logL MC.log (by decide) hok hdn h2 ⟨hR.1,by omega⟩ (by rw [hnW]; omega),if_pos h3]; simp only [Option.bind_some]
    rw [if_neg (by simp),if_neg (by simp)]; simp only [Option.elim_some]
    have hregs:(openL (xL C.L 3) R (now s C.L)).regions=(R:Int) := rfl
    have hbl:(openL (xL C.L 3) R (now s C.L)).bits.length=nW R := by simp [openL]
    rw [zwy hregs (by rw [hbl,hnW]; omega) (by omega)]; simp only [Option.bind_some]
    have hle := @zq3 (openL (xL C.L 3) R (now s C.L)).bits R
    obtain ⟨d,d1,d2,d3⟩ := zyt (l:=zhz (openL (xL C.L 3) R (now s C.L)).bits R) (R:=R) (fun k hk=>ztq hk) (by omega) N 0 ⟨legsM C st C.L,some (openL (xL C.L 3) R (now s C.L)),true,0,(C.sz:Int),(C.rg:Int),List.replicate ((R:Int)).toNat false,0⟩ (by omega) (by omega) (by simp)
    rw [d3]
    refine ⟨d,d1,fun r hr => ?_,rfl⟩
    have hb0:∀ l:List UInt64,bitR l r=tb (l.getD 0 0) r := fun l=>by unfold bitR; rw [show r / 64=0 by omega,show r % 64=r by omega]
    rw [d2 r hr,zzn hr,hb0]
    have e1:(openL (xL C.L 3) R (now s C.L)).bits.getD 0 0=now s C.L 1 := by
      have:(openL (xL C.L 3) R (now s C.L)).bits=(List.range (nW R)).map fun i=>now s C.L (1 + i) := rfl
      rw [this,zm5 (by rw [hnW]; decide)]
    rw [e1]
    have e2:(List.replicate ((R:Int)).toNat false).getD r false=false := by
      simp only [List.getD,List.getElem?_replicate]; split <;> rfl
    show (List.replicate ((R:Int)).toNat false).getD r false=true∨_↔_
    rw [e2]
    exact ⟨fun hx=>hx.elim (fun hy=>(by cases hy)) id,.inr⟩
theorem z2k (h:OpH C s legs st):∃ d:List Bool,d.length=C.R∧(∀ r,r < C.R→d.getD r false=true)∧zi2 legs st (C.rg:Int) s=some (some ⟨legsM C st C.L,none,false,2,(C.sz:Int),(C.rg:Int),d,0⟩,0) :=
  z01 C.hR ztr h
theorem z2l (h:OpH C s legs st) (hok:ArrOk C.ns K s) (hdn:s.down=false) :
    ((C.L:Int) ∈ st → ∃ d:List Bool,d.length=C.R∧(∀ r,r < C.R→d.getD r false=true)∧zgc legs st (xL C.L 3) (C.rg:Int) s=some (some ⟨legsM C st C.L,none,true,2,(C.sz:Int),(C.rg:Int),d,0⟩,0)) ∧
    ((C.L:Int) ∉ st→miss s C.L=true→zgc legs st (xL C.L 3) (C.rg:Int) s=some (none,18)) ∧
    ((C.L:Int) ∉ st→miss s C.L=false→now s C.L 0=headL C.R → ∃ d:List Bool,d.length=C.R∧(∀ r,r < C.R→(d.getD r false=true↔tb (now s C.L 1) r=true))∧zgc legs st (xL C.L 3) (C.rg:Int) s=some (some ⟨legsM C st C.L,some (openL (xL C.L 3) C.R (now s C.L)),true,0,(C.sz:Int),(C.rg:Int),d,0⟩,0)) :=
  z02 C.hR ztr h hok hdn
theorem zq8 (hok:ArrOk C.ns K s) (hdn:s.down=false) (hst:∀ k ∈ st,0≤k∧k≤(C.L:Int)) (hsl:st.length≤1000000) (hex:∃ j,j < C.L∧(j:Int) ∉ st) (hh:C.lg=true→(C.L:Int) ∉ st→miss s C.L=false→now s C.L 0=headL C.R) :
    (¬ (C.lg=true∧(C.L:Int) ∉ st) → ∃ d:List Bool,d.length=C.R∧(∀ r,r < C.R→d.getD r false=true)∧za5 st s (C.L:Int) (C.sz:Int) (C.rg:Int) C.lg=some (some ⟨legsM C st C.L,none,C.lg,2,(C.sz:Int),(C.rg:Int),d,0⟩,0)) ∧
    (C.lg=true→(C.L:Int) ∉ st→miss s C.L=true→za5 st s (C.L:Int) (C.sz:Int) (C.rg:Int) C.lg=some (none,18)) ∧
    (C.lg=true→(C.L:Int) ∉ st→miss s C.L=false → ∃ d:List Bool,d.length=C.R∧(∀ r,r < C.R→(d.getD r false=true↔tb (now s C.L 1) r=true))∧za5 st s (C.L:Int) (C.sz:Int) (C.rg:Int) C.lg=some (some ⟨legsM C st C.L,some (openL (xL C.L 3) C.R (now s C.L)),true,0,(C.sz:Int),(C.rg:Int),d,0⟩,0)) := by
  have hL := C.hL
  have hs := C.hs
  have hcnt:s.drv.length=C.L + 1 := by rw [hok.sz.cnt]; exact MC.len
  have hsize:∀ i,i < C.L→s.size i=C.sz := fun i hi=>by rw [hok.sz.size i (by rw [MC.len]; omega),MC.leg hi]
  have hsizeL:s.size C.L=3 := by rw [hok.sz.size C.L logL,MC.log]
  have hsp:zfp s=some (zjq s) := zxc (by omega) (fun i hi=>by
    rcases Nat.lt_or_ge i C.L with x | x
    · rw [hsize i x]; omega
    · have:i=C.L := by omega
      subst this; rw [hsizeL]; omega)
  have hop:OpH C s ((zjq s).take C.L) st := by
    refine ⟨by rw [List.length_take,znl]; omega,fun i hi => ?_,hst,hsl,hex⟩
    have h1:((zjq s).take C.L).getD i dv0=(zjq s).getD i dv0 := by simp [List.getD,hi]
    rw [h1,zo9 (by omega),hsize i hi]; rfl
  have hlogd:(zjq s).getD C.L dv0=xL C.L 3 := by rw [zo9 (by omega),hsizeL]; rfl
  have hopen:∀ {o:Option MirS} {e:Int},(C.lg=false→zi2 ((zjq s).take C.L) st (C.rg:Int) s=some (o,e))→(C.lg=true→zgc ((zjq s).take C.L) st (xL C.L 3) (C.rg:Int) s=some (o,e))→zdt s (C.L:Int) (C.sz:Int) (C.rg:Int) C.lg st=some (o,e) := by
    intro o e h1 h2
    unfold zdt
    rw [hsp]; simp only [Option.bind_some,znl,hcnt,Int.toNat_natCast]
    rw [if_neg (by omega)]
    cases hlg:C.lg
    · rw [if_neg (by simp)]; simp only [Option.bind_some]
      rw [grd_t (decide_eq_true ⟨by omega,by omega⟩)]; simp only [Option.elim_none]
      rw [h1 hlg]; rfl
    · rw [if_pos ⟨rfl,by omega⟩,grd_t (decide_eq_true ⟨by omega,by omega⟩),hlogd]; simp only [Option.bind_some]
      rw [grd_t (decide_eq_true ⟨by omega,by omega⟩)]; simp only [Option.elim_some]
      rw [h2 hlg]; rfl
  have hown:∀ {o:MirS},zdt s (C.L:Int) (C.sz:Int) (C.rg:Int) C.lg st=some (some o,0)→za5 st s (C.L:Int) (C.sz:Int) (C.rg:Int) C.lg=some (some o,0) := by
    intro o h1
    unfold za5
    rw [h1]; rfl
  obtain ⟨o1,o2,o3⟩ := z2l hop hok hdn
  refine ⟨fun h1 => ?_,fun h1 h2 h3 => ?_,fun h1 h2 h3 => ?_⟩
  · cases hlg:C.lg
    · obtain ⟨d,d1,d2,d3⟩ := z2k hop
      have := hown (hopen (fun _=>d3) (fun hx=>by rw [hlg] at hx; cases hx))
      rw [hlg] at this
      exact ⟨d,d1,d2,this⟩
    · have hin:(C.L:Int) ∈ st := Classical.byContradiction fun hx=>h1 ⟨hlg,hx⟩
      obtain ⟨d,d1,d2,d3⟩ := o1 hin
      have := hown (hopen (fun hx=>by rw [hlg] at hx; cases hx) (fun _=>d3))
      rw [hlg] at this
      exact ⟨d,d1,d2,this⟩
  · have h4 := hopen (fun hx=>by rw [h1] at hx; cases hx) (fun _=>o2 h2 h3)
    unfold za5
    rw [h4]; rfl
  · obtain ⟨d,d1,d2,d3⟩ := o3 h2 h3 (hh h1 h2 h3)
    exact ⟨d,d1,d2,hown (hopen (fun hx=>by rw [h1] at hx; cases hx) (fun _=>d3))⟩
end
end Go.Proofs
namespace Go.Proofs
open Go.VG
theorem zyu {w:UInt64} : ∀ (N i:Nat) (acc:List Bool),192 - i < N→i≤192→acc.length=i → ∃ ks,zhf w N acc i=some ks
  | 0,_,_,h,_,_=>absurd h (by omega)
  | N + 1,i,acc,h,hi,ha=>by
    show ∃ ks,zgo _ _ _ _=_
    unfold zgo
    by_cases hlt:i < 192
    · rw [if_pos (by omega),grd_t (zd5 (by omega))]
      exact zyu N (i + 1) _ (by omega) (by omega) (by simp [ha])
    · rw [if_neg (by omega)]; exact ⟨_,rfl⟩
theorem z3x (w:UInt64):∃ ks,zh4 w=some ks := by
  unfold zh4
  have hF := zbp
  generalize FUEL=N at hF ⊢
  obtain ⟨ks,h⟩ := zyu (w:=w) N 0 [] (by omega) (by omega) rfl
  exact ⟨ks,by rw [h]; rfl⟩
theorem at_ok (a:Int) {n:Nat} (hn:0 < n) (hb:n≤65536):∃ k:Nat,(a.tmod (n:Int) + (n:Int)).tmod (n:Int)=(k:Int)∧k < n ∧ -65536 < a.tmod (n:Int)∧a.tmod (n:Int) < 65536 := by
  have h1 : -(n:Int) < a.tmod n∧a.tmod n < n := by
    have h := Int.natAbs_tmod a n
    have h2 := Nat.mod_lt a.natAbs (show 0 < (n:Int).natAbs by omega)
    omega
  have h2:0≤a.tmod n + n := by omega
  have h3 := Int.tmod_nonneg (a:=a.tmod n + n) n h2
  have h4 := Int.tmod_lt_of_pos (a.tmod n + n) (show (0:Int) < n by omega)
  exact ⟨((a.tmod n + n).tmod n).toNat,by omega,by omega,by omega,by omega⟩
end Go.Proofs
namespace Go.Proofs
open Go.VG
theorem z03 {l:List Int} {k:Int} : ∀ (N i:Nat),l.length - i < N→i≤l.length→(∀ j,j < i→l.getD j 0≠k)→zej l k N i=some (.inl ())∧k ∉ l∨zej l k N i=some (.inr true)∧k ∈ l
  | 0,_,h,_,_=>absurd h (by omega)
  | N + 1,i,h,hi,hn=>by
    have hrec := z03 (l:=l) (k:=k) N (i + 1)
    have hu:zej l k (N + 1) i=zg8 l k (zej l k N) i := rfl
    rw [hu]
    unfold zg8
    by_cases hlt:i < l.length
    · rw [if_pos (by omega)]
      by_cases he:l.getD i 0=k
      · rw [if_pos he]
        exact .inr ⟨rfl,by rw [← he]; simp [List.getD,hlt]⟩
      · rw [if_neg he]
        exact hrec (by omega) (by omega) (fun j hj=>by
          by_cases e:j=i
          · rw [e]; exact he
          · exact hn j (by omega))
    · rw [if_neg (by omega)]
      refine .inl ⟨rfl,fun hk => ?_⟩
      obtain ⟨j,hj,e⟩ := List.mem_iff_getElem.1 hk
      exact hn j (by omega) (by simp [List.getD,hj,e])
theorem has_eq {l:List Int} {k:Int} (hl:l.length≤1000000):zii l k=some (decide (k ∈ l)) := by
  unfold zii
  have hF := zbp
  rcases z03 (l:=l) (k:=k) FUEL 0 (by omega) (by omega) (fun j hj=>absurd hj (by omega)) with ⟨h1,h2⟩ | ⟨h1,h2⟩
  · rw [h1,zd6,decide_eq_false h2]
  · rw [h1,zjv,decide_eq_true h2]
theorem z04 {l:List Int} {n:Int} (h0:0≤n) (hl:∀ k ∈ l,0≤k) (hlen:l.length≤1000000):∀ (N i:Nat) (x:Int) (acc:List Int),l.length - i < N→i≤l.length→(x=n∧acc.length=i∧(∀ z,z ∈ acc↔z ∈ l.take i)∨x = -1∧acc.length≤i + 1∧(∀ z,z ∈ acc↔z ∈ l.take i∨z=n)) →
    ∃ x' acc',zfe l N x acc i=some (x',acc')∧(x' = n∧acc'.length=l.length∧(∀ z,z ∈ acc' ↔ z ∈ l)∨x' = -1∧acc'.length≤l.length + 1∧(∀ z,z ∈ acc' ↔ z ∈ l∨z=n))
  | 0,_,_,_,h,_,_=>absurd h (by omega)
  | N + 1,i,x,acc,h,hi,hx=>by
    have hrec := z04 h0 hl hlen N (i + 1)
    have hu:zfe l (N + 1) x acc i=zg9 l (zfe l N) x acc i := rfl
    rw [hu]
    unfold zg9
    by_cases hlt:i < l.length
    · have hk := hl (l.getD i 0) (by simp [List.getD,hlt])
      have hsn:∀ z,z ∈ l.take (i + 1)↔z ∈ l.take i∨z=l.getD i 0 := fun z=>by rw [zlf (d:=0) hlt,List.mem_append,List.mem_singleton]
      rw [if_pos (by omega)]
      generalize l.getD i 0=g at hk hsn ⊢
      rcases hx with ⟨rfl,h1,h2⟩ | ⟨rfl,h1,h2⟩
      · by_cases hc:(0:Int)≤x∧x < g
        · rw [if_pos hc,grd_t (zd5 (by omega))]; simp only [Option.bind_some]
          rw [if_neg (by omega),grd_t (zd5 (by simp; omega))]
          refine hrec _ _ (by omega) (by omega) (.inr ⟨rfl,by simp; omega,fun z => ?_⟩)
          rw [List.mem_append,List.mem_append,List.mem_singleton,List.mem_singleton,h2,hsn]
          constructor
          · rintro ((a | a) | a)
            · exact .inl (.inl a)
            · exact .inr a
            · exact .inl (.inr a)
          · rintro ((a | a) | a)
            · exact .inl (.inl a)
            · exact .inr a
            · exact .inl (.inr a)
        · rw [if_neg hc]; simp only [Option.bind_some]
          by_cases he:g=x
          · rw [if_pos he,grd_t (zd5 (by omega))]
            refine hrec _ _ (by omega) (by omega) (.inr ⟨rfl,by simp; omega,fun z => ?_⟩)
            rw [List.mem_append,List.mem_singleton,h2,hsn,he]
            exact ⟨fun a => .inl a,fun a=>a.elim id .inr⟩
          · rw [if_neg he,grd_t (zd5 (by omega))]
            refine hrec _ _ (by omega) (by omega) (.inl ⟨rfl,by simp; omega,fun z => ?_⟩)
            rw [List.mem_append,List.mem_singleton,h2,hsn]
      · rw [if_neg (by omega)]; simp only [Option.bind_some]
        rw [if_neg (by omega),grd_t (zd5 (by omega))]
        refine hrec _ _ (by omega) (by omega) (.inr ⟨rfl,by simp; omega,fun z => ?_⟩)
        rw [List.mem_append,List.mem_singleton,h2,hsn]
        constructor
        · rintro ((a | a) | a)
          · exact .inl (.inl a)
          · exact .inr a
          · exact .inl (.inr a)
        · rintro ((a | a) | a)
          · exact .inl (.inl a)
          · exact .inr a
          · exact .inl (.inr a)
    · rw [if_neg (by omega)]
      have e:l.take i=l := List.take_of_length_le (by omega)
      have e2:i=l.length := by omega
      rw [e] at hx
      subst e2
      exact ⟨_,_,rfl,hx⟩
theorem zxd {l:List Int} {n:Int} (h0:0≤n) (hl:∀ k ∈ l,0≤k) (hlen:l.length≤1000000):∃ l',zgk l n=some l' ∧ l'.length≤l.length + 1 ∧ ∀ z,z ∈ l' ↔ z ∈ l∨z=n := by
  unfold zgk
  have hF := zbp
  obtain ⟨x',acc',h1,h2⟩ := z04 h0 hl hlen FUEL 0 n [] (by omega) (by omega) (.inl ⟨rfl,rfl,fun z=>by simp⟩)
  rw [h1]; simp only [Option.bind_some]
  rcases h2 with ⟨rfl,h2,h3⟩ | ⟨rfl,h2,h3⟩
  · rw [if_pos h0,grd_t (zd5 (by omega))]
    exact ⟨_,rfl,by simp [h2],fun z=>by rw [List.mem_append,List.mem_singleton,h3]⟩
  · rw [if_neg (by omega)]
    exact ⟨_,rfl,h2,h3⟩
def dropM (m:MirS) (k:Nat):MirS := { m with legs := m.legs.set k ⟨(m.legs.getD k mleg_x0).dev,2,0⟩ }
section
variable {C:MC} {K a i k:Nat} {s t u y:ArrS} {lv:LV} {m m' x:MirS} {w v:UInt64}
theorem zxe (h:i < m.legs.length) {j:Nat} : (dropM m i).legs.getD j mleg_x0=if j=i then ⟨(m.legs.getD i mleg_x0).dev,2,0⟩ else m.legs.getD j mleg_x0 := znf h
theorem zug (hl:m.legs.length≤6):∀ (N i c:Nat),m.legs.length - i < N→i≤m.legs.length→c≤i → ∃ c',zfs m ((k:Nat):Int) N i c=some c' ∧ ((∃ j,i≤j∧j < m.legs.length∧j≠k∧stM m j≠2)∨0 < c→0 < c')
  | 0,_,_,h,_,_=>absurd h (by omega)
  | N + 1,i,c,h,hi,hc=>by
    have hu:zfs m ((k:Nat):Int) (N + 1) i c=zhj m ((k:Nat):Int) (zfs m ((k:Nat):Int) N) i c := rfl
    rw [hu]
    unfold zhj
    by_cases hlt:i < m.legs.length
    · rw [if_pos (by omega)]
      by_cases h1:(((i:Nat):Int)≠((k:Nat):Int))∧(m.legs.getD i mleg_x0).state≠2
      · rw [if_pos h1,grd_t (zdy (by omega))]
        obtain ⟨c',k1,k2⟩ := zug hl N (i + 1) (c + 1) (by omega) (by omega) (by omega)
        exact ⟨c',k1,fun _=>k2 (.inr (by omega))⟩
      · rw [if_neg h1]
        obtain ⟨c',k1,k2⟩ := zug hl N (i + 1) c (by omega) (by omega) (by omega)
        refine ⟨c',k1,fun hx=>k2 ?_⟩
        rcases hx with ⟨j,j1,j2,j3,j4⟩ | hx
        · rcases Nat.lt_or_ge i j with z | z
          · exact .inl ⟨j,z,j2,j3,j4⟩
          · have:j=i := by omega
            subst this
            exact absurd ⟨by omega,j4⟩ h1
        · exact .inr hx
    · rw [if_neg (by omega)]
      refine ⟨c,rfl,fun hx => ?_⟩
      rcases hx with ⟨j,j1,j2, -⟩ | hx
      · omega
      · exact hx
theorem z2m (h:MI C s lv m) (hcp:∀ i,i < C.L→lv.cp i=0) (hex:∃ j,j < C.L∧lv j=true) (hk:k < C.L) (hl:lv k=false):zg4 m ((k:Nat):Int) s=some (0,dropM m k)∧MI C s lv (dropM m k) := by
  have hF := zbp
  have hkm:k < m.legs.length := by rw [h.len]; exact hk
  obtain ⟨j,hj,hlj⟩ := hex
  constructor
  · unfold zg4
    rw [if_neg (by rintro ⟨x, -⟩; rw [h.len] at x; omega),if_neg (by rw [h.len]; omega)]
    obtain ⟨c',c1,c2⟩ := zug (k:=k) h.l6 FUEL 0 0 (by have := h.l6; omega) (by omega) (by omega)
    have hc := c2 (.inl ⟨j,by omega,by rw [h.len]; exact hj,fun e=>(by rw [e,hl] at hlj; cases hlj),by rw [(h.live hj hlj).1]; decide⟩)
    rw [c1]; simp only [Option.bind_some]
    rw [if_neg (by omega),Int.toNat_natCast,grd_t (decide_eq_true ⟨by omega,by simp; omega⟩)]
    have e:((m.legs.set k { m.legs.getD k mleg_x0 with state := 2 }).set k { (m.legs.set k { m.legs.getD k mleg_x0 with state := 2 }).getD k mleg_x0 with copied := 0 })=m.legs.set k ⟨(m.legs.getD k mleg_x0).dev,2,0⟩ := by
      rw [List.set_set,znf hkm,if_pos rfl]
    rw [e]; rfl
  · refine ⟨by simp [dropM,h.len],fun i hi => ?_,h.size,h.region,h.hasLog,h.dl,h.log,h.d⟩
    unfold stM
    rw [zxe hkm]
    by_cases e:i=k
    · subst e
      rw [if_pos rfl]
      exact ⟨h.dev hi,.inl (hcp i hi).symm,.inr ⟨hl,.inl rfl⟩⟩
    · rw [if_neg e]; exact h.leg i hi
theorem z2n (h:MI C s lv m) (hlg:C.lg=true) (hl:lv C.L=false):zg4 m ((C.L:Nat):Int) s=some (0, { m with log := none,logState := 2 })∧MI C s lv { m with log := none,logState := 2 } := by
  constructor
  · unfold zg4
    rw [if_pos ⟨by rw [h.len],by rw [h.hasLog]; exact hlg⟩]
  · exact ⟨h.len,h.leg,h.size,h.region,h.hasLog,h.dl,.inr ⟨hl,.inl ⟨rfl,rfl⟩⟩,fun hx=>absurd hx (by rw [hl]; decide)⟩
def gB (C:MC) (m:MirS) (i:Nat):Nat := if i < C.L∧stM m i≠2 then 1 else 0
def gM (C:MC) (m:MirS):Nat := gB C m 0 + gB C m 1 + gB C m 2 + if m.logState=2 then 0 else 1
theorem gB_le:gB C m i≤1 := by unfold gB; split <;> omega
theorem gM_le:gM C m≤4 := by
  have h0 := @gB_le C 0 m
  have h1 := @gB_le C 1 m
  have h2 := @gB_le C 2 m
  unfold gM
  split <;> omega
theorem Mk.g (h:Mk m m') (hl:m.legs.length=C.L):gM C m' = gM C m := by
  have hb:∀ i,gB C m' i=gB C m i := fun i=>by
    unfold gB
    by_cases hi:i < C.L
    · have := h.st i (by rw [hl]; exact hi)
      by_cases h2:stM m i=2
      · rw [if_neg (fun x=>x.2 (this.2 h2)),if_neg (fun x=>x.2 h2)]
      · rw [if_pos ⟨hi,fun x=>h2 (this.1 x)⟩,if_pos ⟨hi,h2⟩]
    · rw [if_neg (fun x=>hi x.1),if_neg (fun x=>hi x.1)]
  unfold gM
  rw [hb,hb,hb]
  congr 1
  by_cases h2:m.logState=2
  · rw [if_pos h2,if_pos (h.lst.2 h2)]
  · rw [if_neg h2,if_neg (fun x=>h2 (h.lst.1 x))]
structure Sh (C:MC) (m m':MirS):Prop where
  leg:∀ i,i < C.L→stM m i=2→stM m' i=2
  log:m.logState=2→m'.logState=2
theorem Sh.le (h:Sh C m m') (i:Nat):gB C m' i≤gB C m i := by
  unfold gB
  by_cases h1:i < C.L∧stM m i≠2
  · rw [if_pos h1]; split <;> omega
  · rw [if_neg h1,if_neg]
    · omega
    · rintro ⟨h2,h3⟩
      exact h1 ⟨h2,fun x=>h3 (h.leg i h2 x)⟩
theorem Sh.lt (h:Sh C m m') (hx:(∃ i,i < C.L∧stM m i≠2∧stM m' i=2)∨m.logState≠2∧m'.logState=2):gM C m' < gM C m := by
  have h0 := h.le 0
  have h1 := h.le 1
  have h2 := h.le 2
  have hL := C.hL
  have hlog:(if m'.logState=2 then 0 else 1)≤(if m.logState=2 then 0 else 1) := by
    by_cases e:m.logState=2
    · rw [if_pos e,if_pos (h.log e)]; omega
    · rw [if_neg e]; split <;> omega
  unfold gM
  rcases hx with ⟨i,i1,i2,i3⟩ | ⟨i1,i2⟩
  · have hs:gB C m' i < gB C m i := by
      have e1:gB C m i=1 := if_pos ⟨i1,i2⟩
      have e2:gB C m' i=0 := if_neg (fun x=>x.2 i3)
      omega
    have:i=0∨i=1∨i=2 := by omega
    rcases this with rfl | rfl | rfl <;> omega
  · rw [if_pos i2,if_neg i1]; omega
end
end Go.Proofs
namespace Go.Proofs
open Go.VG
structure OI (C:MC) (K:Nat) (lv:LV) (s:ArrS) (o:OwnS):Prop where
  o1:o.Open_1=(C.L:Int)
  o2:o.Open_2=(C.sz:Int)
  o3:o.Open_3=(C.rg:Int)
  o4:o.Open_4=C.lg
  st:∀ k ∈ o.Stale, ∃ i:Nat,i≤C.L∧k=i∧lv i=false
  sl:o.Stale.length≤K
  nl:∀ i,i≤C.L→lv i=false→(i:Int) ∈ o.Stale∨miss s i=true∨i=C.L∧C.lg=false
  lo:∀ i,i≤C.L→miss s i=true→(i:Int) ∈ o.Lost
  lr:∀ k ∈ o.Lost, ∃ i:Nat,i≤C.L∧k=i∧lv i=false
  ll:o.Lost=lv.lost∧lv.lost.length≤10
  nc:∀ i,i < C.L→lv.cp i=0
  mm:∀ e,Go.Proofs.miss s e=lv.ms e
section
variable {C:MC} {K a i k:Nat} {s t u y:ArrS} {lv:LV} {m m' x:MirS} {w v:UInt64} {o:OwnS}
theorem OI.mono {K':Nat} (h:OI C K lv s o) (hK:K≤K'):OI C K' lv s o := { h with sl := Nat.le_trans h.sl hK }
theorem OI.arr (h:OI C K lv s o) (hm:∀ e,miss t e=miss s e):OI C K lv t o := { h with nl := fun i hi hl=>by rw [hm]; exact h.nl i hi hl,lo := fun i hi hx=>h.lo i hi (by rw [← hm]; exact hx),mm := fun e=>(hm e).trans (h.mm e) }
theorem OI.set {o':OwnS} (h:OI C K lv s o) (e1:o'.Open_1=o.Open_1) (e2:o'.Open_2=o.Open_2) (e3:o'.Open_3=o.Open_3) (e4:o'.Open_4=o.Open_4) (e5:o'.Stale=o.Stale) (e6:o'.Lost=o.Lost):OI C K lv s o' :=
  ⟨e1.trans h.o1,e2.trans h.o2,e3.trans h.o3,e4.trans h.o4,by rw [e5]; exact h.st,by rw [e5]; exact h.sl,by rw [e5]; exact h.nl,by rw [e6]; exact h.lo,by rw [e6]; exact h.lr,by rw [e6]; exact h.ll,h.nc,h.mm⟩
theorem OI.stale {o':OwnS} {l:List Int} (h:OI C K lv s o) (hk:k≤C.L) (hl:lv k=false) (h1:l.length≤o.Stale.length + 1) (h2:∀ z,z ∈ l↔z ∈ o.Stale∨z=(k:Int)) (e1:o'.Open_1=o.Open_1) (e2:o'.Open_2=o.Open_2) (e3:o'.Open_3=o.Open_3) (e4:o'.Open_4=o.Open_4) (e5:o'.Stale=l) (e6:o'.Lost=o.Lost):OI C (K + 1) lv s o' :=
  ⟨e1.trans h.o1,e2.trans h.o2,e3.trans h.o3,e4.trans h.o4,by
    rw [e5]; intro z hz
    rcases (h2 z).1 hz with x | x
    · exact h.st z x
    · exact ⟨k,hk,x,hl⟩,by rw [e5]; have := h.sl; omega,by
    rw [e5]; intro i hi hli
    rcases h.nl i hi hli with x | x
    · exact .inl ((h2 _).2 (.inl x))
    · exact .inr x,by rw [e6]; exact h.lo,by rw [e6]; exact h.lr,by rw [e6]; exact h.ll,h.nc,h.mm⟩
structure Dp (C:MC) (K:Nat) (lv:LV) (s:ArrS) (m:MirS) (t:List Sec) (i:Nat) (o:OwnS) (m':MirS):Prop where
  x:o.X=some m'
  oi:OI C (K + i) lv s o
  mi:MI C s lv m'
  t:o.T=t
  sh:Sh C m m'
  dirty:m'.dirty=m.dirty
  copied:m'.copied=m.copied
  leg:∀ j:Nat,j < C.L→stM m' j=1→(j:Int) ∈ (zdv m).drop i
  log:m'.logState=1→C.lg=true→(C.L:Int) ∈ (zdv m).drop i
  dn:∀ j:Nat,j < C.L→(j:Int) ∈ (zdv m).take i→stM m' j=2
  dnl:(C.L:Int) ∈ (zdv m).take i→m'.logState=2
theorem zso (hmi:MI C s lv m) (hex:∃ j,j < C.L∧lv j=true) (hK:K≤900000) (hlen:(zdv m).length≤4) {T:List Sec} : ∀ (N i:Nat) (o:OwnS) (m':MirS),(zdv m).length - i < N→i≤(zdv m).length→Dp C K lv s m T i o m' →
    ∃ o' m'',zds s (zdv m) N o i=some (.inl o')∧Dp C K lv s m T (zdv m).length o' m''
  | 0,_,_,_,h,_,_=>absurd h (by omega)
  | N + 1,i,o,m',h,hi,hp=>by
    have hu:zds s (zdv m) (N + 1) o i=zez s (zdv m) (zds s (zdv m) N) o i := rfl
    rw [hu]
    unfold zez
    by_cases hlt:i < (zdv m).length
    · have hmem:(zdv m).getD i 0 ∈ zdv m := by simp [List.getD,hlt]
      have hdr:(zdv m).drop i=(zdv m).getD i 0::(zdv m).drop (i + 1) := by rw [List.drop_eq_getElem_cons hlt]; simp [List.getD,hlt]
      have htk:(zdv m).take (i + 1)=(zdv m).take i ++ [(zdv m).getD i 0] := zlf hlt
      rw [if_pos (by omega)]
      -- which one
      have hwho:∃ k:Nat,k≤C.L∧(zdv m).getD i 0=(k:Int)∧lv k=false∧miss s k=true∧(k=C.L→C.lg=true) := by
        rcases mem_failedL.1 hmem with ⟨j,j1,j2,j3⟩ | ⟨j1,j2,j3⟩
        · rw [hmi.len] at j1
          rcases (hmi.leg j j1).2.2 with ⟨-,z, -⟩ | ⟨z1,z | ⟨z2, -⟩⟩
          · rw [j2] at z; cases z
          · rw [j2] at z; cases z
          · exact ⟨j,by omega,j3,z1,z2,fun e=>by omega⟩
        · rw [hmi.len] at j3
          rcases hmi.log with ⟨-,z, -⟩ | ⟨z1,⟨-,z⟩ | ⟨z2,z3, -⟩⟩
          · rw [j2] at z; cases z
          · rw [j2] at z; cases z
          · exact ⟨C.L,Nat.le_refl _,j3,z1,z3,fun _=>z2⟩
      obtain ⟨k,k1,k2,k3,k4,k5⟩ := hwho
      rw [k2] at hdr htk ⊢
      rw [has_eq (by have := hp.oi.ll.2; rw [hp.oi.ll.1]; omega)]; simp only [Option.bind_some]
      rw [if_neg (by simpa using hp.oi.lo k k1 k4),hp.x]; simp only [Option.elim_some]
      obtain ⟨l',l1,l2,l3⟩ := zxd (l:=o.Stale) (n:=(k:Int)) (by omega) (fun z hz=>by obtain ⟨i, -,rfl, -⟩ := hp.oi.st z hz; omega) (by have := hp.oi.sl; omega)
      by_cases hkL:k=C.L
      · subst hkL
        obtain ⟨d1,d2⟩ := z2n hp.mi (k5 rfl) k3
        rw [d1]; simp only [Option.bind_some]
        rw [if_neg (by simp),l1]; simp only [Option.bind_some]
        rw [grd_t (zdy (by omega))]
        refine zso hmi hex hK hlen N (i + 1) _ { m' with log := none,logState := 2 } (by omega) (by omega) ⟨rfl,hp.oi.stale (Nat.le_refl _) k3 l2 l3 rfl rfl rfl rfl rfl rfl,d2,hp.t,⟨hp.sh.leg,fun _=>rfl⟩,hp.dirty,hp.copied,fun j hj hs => ?_,fun hs=>(by cases hs),fun j hj hm => ?_,fun _=>rfl⟩
        · have := hp.leg j hj hs
          rw [hdr] at this
          rcases List.mem_cons.1 this with z | z
          · omega
          · exact z
        · rw [htk] at hm
          rcases List.mem_append.1 hm with z | z
          · exact hp.dn j hj z
          · have := List.mem_singleton.1 z; omega
      · have hkl:k < C.L := by omega
        obtain ⟨d1,d2⟩ := z2m hp.mi hp.oi.nc hex hkl k3
        rw [d1]; simp only [Option.bind_some]
        rw [if_neg (by simp),l1]; simp only [Option.bind_some]
        rw [grd_t (zdy (by omega))]
        have hkm:k < m'.legs.length := by rw [hp.mi.len]; exact hkl
        have hst:∀ j,stM (dropM m' k) j=if j=k then 2 else stM m' j := fun j=>by
          unfold stM; rw [zxe hkm]; split <;> rfl
        refine zso hmi hex hK hlen N (i + 1) _ (dropM m' k) (by omega) (by omega) ⟨rfl,hp.oi.stale k1 k3 l2 l3 rfl rfl rfl rfl rfl rfl,d2,hp.t,⟨fun j hj hs => ?_,hp.sh.log⟩,hp.dirty,hp.copied,fun j hj hs => ?_,fun hs hlg => ?_,fun j hj hm => ?_,fun hm => ?_⟩
        · rw [hst]; split
          · rfl
          · exact hp.sh.leg j hj hs
        · rw [hst] at hs
          split at hs
          · cases hs
          · rename_i hne
            have := hp.leg j hj hs
            rw [hdr] at this
            rcases List.mem_cons.1 this with z | z
            · exact absurd (by omega) hne
            · exact z
        · have := hp.log hs hlg
          rw [hdr] at this
          rcases List.mem_cons.1 this with z | z
          · omega
          · exact z
        · rw [hst]
          rw [htk] at hm
          rcases List.mem_append.1 hm with z | z
          · split
            · rfl
            · exact hp.dn j hj z
          · have := List.mem_singleton.1 z
            rw [if_pos (by omega)]
        · rw [htk] at hm
          rcases List.mem_append.1 hm with z | z
          · exact hp.dnl z
          · have := List.mem_singleton.1 z; omega
    · rw [if_neg (by omega)]
      have:i=(zdv m).length := by omega
      subst this
      exact ⟨o,m',rfl,hp⟩
theorem zzo (h:MI C s lv m):(zdv m).length≤4 := by
  have h1 := @zq5 m m.legs.length
  have h2 := C.hL
  have h3 := h.len
  unfold zdv
  rw [List.length_append]
  split
  · simp; omega
  · simp; omega
theorem odrop (hx:o.X=some m) (hoi:OI C K lv s o) (hmi:MI C s lv m) (hex:∃ j,j < C.L∧lv j=true) (hnf:¬ NF m) (hK:K≤900000) :
    ∃ o' m',zc7 o s=some (true,o')∧o'.X=some m' ∧ OI C (K + 4) lv s o' ∧ MI C s lv m' ∧ NF m' ∧ gM C m' < gM C m∧o'.T=o.T∧m'.dirty=m.dirty∧m'.copied=m.copied := by
  have hF := zbp
  have hlen := zzo hmi
  unfold zc7
  rw [hx]; simp only [Option.elim_some]
  rw [zvb hmi.l6]; simp only [Option.bind_some]
  obtain ⟨o',m',h1,h2⟩ := zso (T:=o.T) hmi hex hK hlen FUEL 0 { o with X := some m } m (by omega) (by omega)
    ⟨rfl,hoi.set rfl rfl rfl rfl rfl rfl,hmi,rfl,⟨fun _ _ h=>h,id⟩,rfl,rfl,fun j hj hs=>by rw [List.drop_zero]; exact mem_failedL.2 (.inl ⟨j,by rw [hmi.len]; exact hj,hs,rfl⟩),fun hs hlg=>by rw [List.drop_zero]; exact mem_failedL.2 (.inr ⟨by rw [hmi.hasLog]; exact hlg,hs,by rw [hmi.len]⟩),fun j hj hm=>by simp at hm,fun hm=>by simp at hm⟩
  rw [h1,zd6]
  have hne:zdv m≠[] := fun e=>hnf (nf_iff.1 e)
  have hpos := List.length_pos_iff.2 hne
  rw [decide_eq_true (show (0:Int) < (((zdv m).length:Nat):Int) by omega)]
  refine ⟨o',m',rfl,h2.x,h2.oi.mono (by omega),h2.mi,⟨fun j hj hs => ?_,fun ⟨z1,z2⟩ => ?_⟩,h2.sh.lt ?_,h2.t,h2.dirty,h2.copied⟩
  · have := h2.leg j (by rw [← h2.mi.len]; exact hj) hs
    rw [List.drop_length] at this; cases this
  · have := h2.log z2 (by rw [← h2.mi.hasLog]; exact z1)
    rw [List.drop_length] at this; cases this
  · obtain ⟨k,hk⟩ := List.exists_mem_of_ne_nil _ hne
    rcases mem_failedL.1 hk with ⟨j,j1,j2,rfl⟩ | ⟨j1,j2,rfl⟩
    · rw [hmi.len] at j1
      exact .inl ⟨j,j1,by rw [j2]; decide,h2.dn j j1 (by rw [List.take_length]; exact hk)⟩
    · rw [hmi.len] at hk
      exact .inr ⟨by rw [j2]; decide,h2.dnl (by rw [List.take_length]; exact hk)⟩
end
end Go.Proofs
namespace Go.Proofs
open Go.VG
theorem z05 {t:List Sec} {i j:Nat} {y:Sec} (h:i < t.length):(t.set i y).getD j s0=if j=i then y else t.getD j s0 := by
  simp only [List.getD,List.getElem?_set]
  by_cases e:i=j
  · subst e; simp [h]
  · rw [if_neg e,if_neg (fun x=>e x.symm)]
theorem z06 {t:List Sec} {g:Sec→Sec} {j:Nat} (h:j < t.length):(t.map g).getD j s0=g (t.getD j s0) := by
  simp only [List.getD,List.getElem?_map]; rw [List.getElem?_eq_getElem h]; rfl
theorem zk9 {t:List Sec} {a b:Nat} {v:UInt64} {q:Bool} (h:a < t.length):(zcq t (a:Int) v q).getD b s0=if b=a then ⟨(t.getD a s0).some ++ [v],q,v⟩ else t.getD b s0 := by
  rw [zqv h,z05 h]
theorem zzp {t:List Sec} {a:Nat} {v:UInt64} {q:Bool} (h:a < t.length):(zcq t (a:Int) v q).length=t.length := by rw [zqv h]; simp
theorem znh {t:List Sec} {n:Nat} (h:∀ a,a < n→(t.getD a s0).some.length≤100000) (hl:t.length=n):zj8 t=true := by
  unfold zj8
  rw [List.all_eq_true]
  intro y hy
  obtain ⟨i,hi,rfl⟩ := List.getElem_of_mem hy
  have := h i (by omega)
  simp only [List.getD,List.getElem?_eq_getElem hi,Option.getD_some] at this
  rw [Nat.ble_eq]; omega
structure UP (C:MC) (K:Nat) (lv:LV) (s:ArrS) (o:OwnS) (m:MirS) (ex:Nat→Prop):Prop where
  x:o.X=some m
  oi:OI C K lv s o
  di:DI C K s o.T lv
  mi:MI C s lv m
  kn:∀ a,a < C.sz → ¬ ex a→(o.T.getD a s0).known=true ∧ ∀ j,j < C.L→lv j=true→now s j a=(o.T.getD a s0).value
  sm:∀ a,a < C.sz→(o.T.getD a s0).some.length≤K + 1
  dn:s.down=false
structure DN (C:MC) (K:Nat) (lv:LV) (s:ArrS) (o:OwnS):Prop where
  oi:OI C K lv s o
  di:DI C K s o.T lv
  sm:∀ a,a < C.sz→(o.T.getD a s0).some.length≤K + 1
section
variable {C:MC} {K K' a i k:Nat} {s t u y:ArrS} {lv:LV} {m m' x:MirS} {w v:UInt64} {o:OwnS} {ex:Nat→Prop} {T:List Sec}
theorem DI.mono (h:DI C K s T lv) (hK:K≤K'):DI C K' s T lv := { h with ok := h.ok.mono hK }
theorem UP.mono (h:UP C K lv s o m ex) (hK:K≤K'):UP C K' lv s o m ex := { h with oi := h.oi.mono hK,di := h.di.mono hK,sm := fun a ha=>Nat.le_trans (h.sm a ha) (by omega) }
theorem DN.mono (h:DN C K lv s o) (hK:K≤K'):DN C K' lv s o := { h with oi := h.oi.mono hK,di := h.di.mono hK,sm := fun a ha=>Nat.le_trans (h.sm a ha) (by omega) }
theorem UP.small (h:UP C K lv s o m ex) (hK:K≤90000):zj8 o.T=true := znh (fun a ha=>Nat.le_trans (h.sm a ha) (by omega)) h.di.tl
theorem UP.tl (h:UP C K lv s o m ex) (ha:a < C.sz):a < o.T.length := by rw [h.di.tl]; exact ha
theorem UP.dropped (h:UP C K lv s o m ex) (hnf:¬ NF m) (hK:K≤80000):∃ o' m',zc7 o s=some (true,o')∧UP C (K + 4) lv s o' m' ex∧NF m' ∧ gM C m' < gM C m∧o'.T=o.T∧m'.dirty=m.dirty∧m'.copied=m.copied := by
  obtain ⟨o',m',h1,h2,h3,h4,h5,h6,h7,h8,h9⟩ := odrop h.x h.oi h.mi h.di.ex hnf (by omega)
  exact ⟨o',m',h1,⟨h2,h3,by rw [h7]; exact h.di.mono (by omega),h4,by rw [h7]; exact h.kn,by rw [h7]; exact fun a ha=>Nat.le_trans (h.sm a ha) (by omega),h.dn⟩,h5,h6,h7,h8,h9⟩
theorem setX (hx:o.X=some m):({ o with X := some m } : OwnS)=o := by cases o; cases hx; rfl
theorem UP.fd (h:UP C K lv s o m ex) (hf:Fd s m m' 0):UP C K lv s { o with X := some m' } m' ex :=
  ⟨rfl,h.oi.set rfl rfl rfl rfl rfl rfl,h.di,h.mi.fd hf,h.kn,h.sm,h.dn⟩
theorem zsp (ha:a < C.sz) {q:Bool} : ∀ (N n:Nat) (K:Nat) (o:OwnS) (m:MirS) (w0:UInt64) (e:Int),9 - n < N→n + gM C m≤5→K + 4 * gM C m≤70000→UP C K lv s o m (fun _=>False)→(e=0∧NF m∧w0=(o.T.getD a s0).value∨e=18 ∧ ¬ NF m) →
    ∃ o' m',zbs (a:Int) N o s n w0 e=some (.inl ((o.T.getD a s0).value,0,o',s))∧UP C (K + 4 * gM C m) lv s o' m' (fun _=>False)∧NF m' ∧ o'.T=o.T∧m'.dirty=m.dirty∧m'.copied=m.copied
  | 0,_,_,_,_,_,_,h,_,_,_,_=>absurd h (by omega)
  | N + 1,n,K,o,m,w0,e,h,hn,hK,hu,he=>by
    have hun:zbs (a:Int) (N + 1) o s n w0 e=zcc (a:Int) (zbs (a:Int) N) o s n w0 e := rfl
    rw [hun]
    unfold zcc
    rcases he with ⟨rfl,h1,rfl⟩ | ⟨rfl,h1⟩
    · rw [if_neg (fun x=>absurd x.2 (by decide))]
      exact ⟨o,m,rfl,hu.mono (by omega),h1,rfl,rfl,rfl⟩
    · rw [if_pos ⟨by omega,rfl⟩]
      obtain ⟨o',m',d1,d2,d3,d4,d5,d6,d7⟩ := hu.dropped h1 (by omega)
      rw [d1]; simp only [Option.bind_some]
      rw [if_neg (by simp),d2.x]; simp only [Option.elim_some]
      have hkn := (d2.kn a ha (fun x=>x)).2
      obtain ⟨m2,f1,f2⟩ := zw8 (w:=(o'.T.getD a s0).value) d2.mi d2.oi.nc d3 d2.di.ok d2.dn ha d2.di.ex hkn
      have hg:gM C m2=gM C m' := f1.mks.g d2.mi.len
      have hdi:m2.dirty=m'.dirty := by rw [f1.oth]
      have hco:m2.copied=m'.copied := by rw [f1.oth]
      rcases f2 with ⟨f2,f3⟩ | ⟨⟨w',f2⟩,f3⟩
      · rw [f2]; simp only [Option.bind_some]
        obtain ⟨o3,m3,g1,g2,g3,g4,g5,g6⟩ := zsp ha (q:=q) N (n + 1) (K + 4) _ m2 _ 0 (by omega) (by omega) (by omega) (d2.fd f1) (.inl ⟨rfl,f3,rfl⟩)
        rw [← d5]
        exact ⟨o3,m3,g1,g2.mono (by omega),g3,g4,g5.trans (hdi.trans d6),g6.trans (hco.trans d7)⟩
      · rw [f2]; simp only [Option.bind_some]
        obtain ⟨o3,m3,g1,g2,g3,g4,g5,g6⟩ := zsp ha (q:=q) N (n + 1) (K + 4) _ m2 w' 18 (by omega) (by omega) (by omega) (d2.fd f1) (.inr ⟨rfl,f3⟩)
        rw [← d5]
        exact ⟨o3,m3,g1,g2.mono (by omega),g3,g4,g5.trans (hdi.trans d6),g6.trans (hco.trans d7)⟩
theorem oread (hu:UP C K lv s o m (fun _=>False)) (hnf:NF m) (ha:a < C.sz) (hK:K≤50000) {q:Bool} :
    ∃ o' m',zb9 o (a:Int) q s=some (0,true,o',s)∧UP C (K + 20) lv s o' m' (fun _=>False)∧NF m' ∧ o'.T=o.T∧m'.dirty=m.dirty∧m'.copied=m.copied := by
  have hF := zbp
  have hg4 := @gM_le C m
  unfold zb9
  rw [hu.x]; simp only [Option.elim_some]
  obtain ⟨k1,k2⟩ := hu.kn a ha (fun x=>x)
  obtain ⟨m2,f1,f2⟩ := zw8 (w:=(o.T.getD a s0).value) hu.mi hu.oi.nc hnf hu.di.ok hu.dn ha hu.di.ex k2
  have hg:gM C m2=gM C m := f1.mks.g hu.mi.len
  have hdi:m2.dirty=m.dirty := by rw [f1.oth]
  have hco:m2.copied=m.copied := by rw [f1.oth]
  have fin:∀ {w':UInt64} {e:Int},(e=0∧NF m2∧w' = (o.T.getD a s0).value∨e=18 ∧ ¬ NF m2)→zb4 m (a:Int) s=some (w',e,m2,s) →
      ∃ o' m',(Option.bind (zb4 m (a:Int) s) fun r7 =>
        seqO (zbs (a:Int) FUEL ({ o with X := (some r7.2.2.1) }) r7.2.2.2 0 r7.1 r7.2.1) fun a16 =>
        if (a16.2.1=(5:Int)) then
          some (a16.2.1,true,a16.2.2.1,a16.2.2.2)
        else
          if (a16.2.1=(0:Int)) then
            grd (decide (zj8 a16.2.2.1.T=true)) <|
            some ((a16.2.1,(rdTR a16.2.2.1.T (a:Int) a16.1), { a16.2.2.1 with T := (rdTS a16.2.2.1.T (a:Int) a16.1 q) },a16.2.2.2))
          else
            some (a16.2.1,false,a16.2.2.1,a16.2.2.2))=some (0,true,o',s)∧UP C (K + 20) lv s o' m' (fun _=>False)∧NF m' ∧ o'.T=o.T∧m'.dirty=m.dirty∧m'.copied=m.copied := by
    intro w' e h1 h2
    rw [h2]; simp only [Option.bind_some]
    obtain ⟨o3,m3,g1,g2,g3,g4,g5,g6⟩ := zsp ha (q:=q) FUEL 0 K _ m2 w' e (by omega) (by omega) (by omega) (hu.fd f1) h1
    have e1:({ o with X := some m2 } : OwnS).T=o.T := rfl
    rw [e1] at g1 g4
    rw [g1,zd6]
    have hl:0≤(a:Int)∧(a:Int) < (o3.T.length:Int) := ⟨by omega,by have := g2.tl ha; omega⟩
    rw [if_neg (by simp),if_pos rfl,grd_t (decide_eq_true (g2.small (by omega)))]
    have e2:rdTR o3.T (a:Int) (o.T.getD a s0).value=true := by
      unfold rdTR
      rw [if_pos hl,Int.toNat_natCast,g4,if_pos k1,decide_eq_true rfl]
    have e3:rdTS o3.T (a:Int) (o.T.getD a s0).value q=o3.T := by
      unfold rdTS
      rw [if_pos hl,Int.toNat_natCast,g4,if_pos k1]
    rw [e2,e3]
    have e4:({ o3 with T := o3.T } : OwnS)=o3 := rfl
    rw [e4]
    exact ⟨o3,m3,rfl,g2.mono (by omega),g3,g4,g5.trans hdi,g6.trans hco⟩
  rcases f2 with ⟨f2,f3⟩ | ⟨⟨w',f2⟩,f3⟩
  · exact fin (.inl ⟨rfl,f3,rfl⟩) f2
  · exact fin (.inr ⟨rfl,f3⟩) f2
theorem wr_di {q:Bool} (h:DI C K s T lv) (hw:WrD C K' s lv a v t) (ha:a < C.sz):DI C K' t (zcq T (a:Int) v q) lv := by
  have hlt:a < T.length := by rw [h.tl]; exact ha
  refine ⟨hw.ok,by rw [zzp hlt]; exact h.tl,h.ex,fun i hi hl=>by rw [hw.miss]; exact h.miss i hi hl,h.lgl,fun b hb j hj hl c hc => ?_,fun hl c hc=>hw.head c hc hl,fun hl r hr => ?_⟩
  · rw [zk9 hlt]
    rcases hw.cnd j hj hl b hb c hc with x | ⟨x1,x2⟩
    · have := h.cnd b hb j hj hl c x
      split
      · rename_i e; subst e; exact List.mem_append_left _ this
      · exact this
    · rw [if_pos x1,x2]; exact List.mem_append_right _ (List.mem_singleton.2 rfl)
  · rcases h.c hl r hr with x | ⟨f,x⟩
    · exact .inl (hw.set r hr hl x)
    · by_cases e:r=a / C.rg
      · rcases hw.reg hl with z | z
        · rw [e]; exact .inl z
        · exact .inr ⟨f,fun b hb hbr j hj hlj c hc=>x b hb hbr j hj hlj c (by rw [z j hj hlj b hb] at hc; exact hc)⟩
      · refine .inr ⟨f,fun b hb hbr j hj hlj c hc => ?_⟩
        rcases hw.cnd j hj hlj b hb c hc with z | ⟨z, -⟩
        · exact x b hb hbr j hj hlj c z
        · exact absurd (by rw [← hbr,z]) e
theorem wr_sm {q:Bool} (h:∀ b,b < C.sz→(T.getD b s0).some.length≤K + 1) (htl:T.length=C.sz) (ha:a < C.sz):∀ b,b < C.sz→((zcq T (a:Int) v q).getD b s0).some.length≤(K + 1) + 1 := fun b hb=>by
  rw [zk9 (by rw [htl]; exact ha)]
  split
  · simp; exact h a ha
  · have := h b hb; omega
theorem zyv (hu:UP C K lv s o m ex) (hex:∀ b,ex b→b=a) (hnf:NF m) (ha:a < C.sz) (hK:K≤80000) :
    ∃ e m' s',zer m (a:Int) v s=some (e,m',s') ∧
      (e=0∧NF m' ∧ UP C (K + 8) lv s' { o with X := some m',T := zcq o.T (a:Int) v true } m' (fun _=>False)∧Mk m m' ∧ Wr C (K + 8) s lv a v s' ∨
       e=18 ∧ ¬ NF m' ∧ UP C (K + 8) lv s' { o with X := some m',T := zcq o.T (a:Int) v false } m' (fun b=>b=a)∧Mk m m' ∧ Wr C (K + 8) s lv a v s' ∨
       e=5∧s.fuse≠0∧DN C (K + 8) lv s' { o with X := some m',T := zcq o.T (a:Int) v false } ∧ WrD C (K + 8) s lv a v s') := by
  have hlt:a < o.T.length := hu.tl ha
  obtain ⟨e,m',s',h1,h2⟩ := z2i (v:=v) hu.mi hu.oi.nc hnf hu.di.ok hu.dn (by omega) ha
  refine ⟨e,m',s',h1,?_⟩
  have hoi:∀ {q:Bool},WrD C (K + 8) s lv a v s' → OI C (K + 8) lv s' { o with X := some m',T := zcq o.T (a:Int) v q } := fun {q} hw=>by
    have h9:OI C K lv s { o with X := some m',T := zcq o.T (a:Int) v q } := hu.oi.set rfl rfl rfl rfl rfl rfl
    exact (h9.arr hw.miss).mono (by omega)
  have hsm:∀ {q:Bool}, ∀ b,b < C.sz→((zcq o.T (a:Int) v q).getD b s0).some.length≤K + 8 + 1 := fun b hb=>Nat.le_trans (wr_sm hu.sm hu.di.tl ha b hb) (by omega)
  have hoth:∀ {q:Bool},Wr C (K + 8) s lv a v s' → ∀ b,b < C.sz→b≠a→((zcq o.T (a:Int) v q).getD b s0).known=true ∧ ∀ j,j < C.L→lv j=true→now s' j b=((zcq o.T (a:Int) v q).getD b s0).value := fun hw b hb hba=>by
    rw [zk9 hlt,if_neg hba]
    obtain ⟨k1,k2⟩ := hu.kn b hb (fun x=>hba (hex b x))
    exact ⟨k1,fun j hj hl=>by rw [hw.now j hj hl b hb hba]; exact k2 j hj hl⟩
  rcases h2 with ⟨rfl,g1,g2,g3,g4,g5⟩ | ⟨rfl,g1,g2,g3,g4⟩ | ⟨rfl,g1,g2⟩
  · refine .inl ⟨rfl,g1,⟨rfl,hoi g4.toWrD,wr_di hu.di g4.toWrD ha,g2,fun b hb _ => ?_,hsm,g4.dn⟩,g3,g4⟩
    by_cases e:b=a
    · subst e
      show ((zcq o.T (b:Int) v true).getD b s0).known=true ∧ ∀ j,j < C.L→lv j=true→now s' j b=((zcq o.T (b:Int) v true).getD b s0).value
      rw [zk9 hlt,if_pos rfl]
      exact ⟨rfl,g5⟩
    · exact hoth g4 b hb e
  · exact .inr (.inl ⟨rfl,g1,⟨rfl,hoi g4.toWrD,wr_di hu.di g4.toWrD ha,g2,fun b hb hba=>hoth g4 b hb hba,hsm,g4.dn⟩,g3,g4⟩)
  · exact .inr (.inr ⟨rfl,g1,⟨hoi g2,wr_di hu.di g2 ha,hsm⟩,g2⟩)
end
end Go.Proofs
namespace Go.Proofs
open Go.VG
structure Ev (C:MC) (lv:LV) (s t:ArrS) (p:Nat→Prop):Prop where
  miss:∀ e,Go.Proofs.miss t e=Go.Proofs.miss s e
  dead:∀ j,j < C.L→lv j=false → ∀ b,b < C.sz→now t j b=now s j b
  bit:lv C.L=true → ∀ c ∈ cand t C.L 1, ∀ r,r < C.R→tb c r=true→p r ∨ ∃ c' ∈ cand s C.L 1,tb c' r=true
section
variable {C:MC} {K K' a i k:Nat} {s t u y:ArrS} {lv:LV} {m m' x:MirS} {w v:UInt64} {o:OwnS} {ex p:Nat→Prop} {T:List Sec}
theorem Ev.refl:Ev C lv s s p := ⟨fun _=>rfl,fun _ _ _ _ _=>rfl,fun _ c hc _ _ hb => .inr ⟨c,hc,hb⟩⟩
theorem Ev.trans (h:Ev C lv s t p) (h':Ev C lv t u p):Ev C lv s u p :=
  ⟨fun e=>(h'.miss e).trans (h.miss e),fun j hj hl b hb=>(h'.dead j hj hl b hb).trans (h.dead j hj hl b hb),fun hl c hc r hr hb=>by
    rcases h'.bit hl c hc r hr hb with x | ⟨c',x,x2⟩
    · exact .inl x
    · exact h.bit hl c' x r hr x2⟩
theorem WrD.ev (h:WrD C K s lv a v t):Ev C lv s t (fun r=>r=a / C.rg) := ⟨h.miss,h.dead,h.bit⟩
theorem FlD.ev (h:FlD C K s lv t):Ev C lv s t p := ⟨h.miss,fun j hj _ b hb=>h.now j b hj hb,fun hl c hc r hr hb => .inr (h.bit hl c hc r hr hb)⟩
theorem zq9 (ha:a < C.sz) {s9:ArrS} : ∀ (N n K:Nat) (o:OwnS) (m:MirS) (s:ArrS) (e:Int),9 - n < N→n + gM C m≤5→K + 16 * gM C m≤70000→o.X=some m→Ev C lv s9 s (fun r=>r=a / C.rg) →
    (e=0∧NF m∧UP C K lv s { o with T := zcq o.T (a:Int) v true } m (fun _=>False)∧(s9.fuse=0→s.fuse=0)∨e=18 ∧ ¬ NF m∧UP C K lv s { o with T := zcq o.T (a:Int) v false } m (fun b=>b=a)∧(s9.fuse=0→s.fuse=0)∨e=5∧s9.fuse≠0∧DN C K lv s { o with T := zcq o.T (a:Int) v false }) →
    ∃ e' o' m' s',zbm (a:Int) v N o s e n=some (.inl (e',o',s'))∧Ev C lv s9 s' (fun r=>r=a / C.rg) ∧
      (e' = 0∧NF m' ∧ UP C (K + 16 * gM C m) lv s' { o' with T := zcq o'.T (a:Int) v true } m' (fun _=>False)∧(s9.fuse=0→s'.fuse=0)∧m'.dirty=m.dirty∧m'.copied=m.copied∨e' = 5∧s9.fuse≠0∧DN C (K + 16 * gM C m) lv s' { o' with T := zcq o'.T (a:Int) v false })
  | 0,_,_,_,_,_,_,h,_,_,_,_,_=>absurd h (by omega)
  | N + 1,n,K,o,m,s,e,h,hn,hK,hX,hev,he=>by
    have hun:zbm (a:Int) v (N + 1) o s e n=zbw (a:Int) v (zbm (a:Int) v N) o s e n := rfl
    rw [hun]
    unfold zbw
    rcases he with ⟨rfl,h1,h2,h3⟩ | ⟨rfl,h1,h2,h3⟩ | ⟨rfl,h1,h2⟩
    · rw [if_neg (fun x=>absurd x.2 (by decide))]
      exact ⟨0,o,m,s,rfl,hev,.inl ⟨rfl,h1,h2.mono (by omega),h3,rfl,rfl⟩⟩
    · rw [if_pos ⟨by omega,rfl⟩]
      have hsm:zj8 o.T=true := by
        have hlen:o.T.length=C.sz := by
          have h9 := h2.di.tl
          have h8:(zcq o.T (a:Int) v false).length=C.sz := h9
          unfold zcq at h8
          split at h8
          · simpa using h8
          · exact h8
        refine znh (fun b hb => ?_) hlen
        have h9 := h2.sm b hb
        have h8:((zcq o.T (a:Int) v false).getD b s0).some.length≤K + 1 := h9
        rw [zk9 (by rw [hlen]; exact ha)] at h8
        split at h8
        · rename_i e; subst e
          have h6:((o.T.getD b s0).some ++ [v]).length≤K + 1 := h8
          rw [List.length_append] at h6; omega
        · omega
      rw [grd_t (decide_eq_true hsm)]
      obtain ⟨o',m',d1,d2,d3,d4,d5,d6,d7⟩ := h2.dropped h1 (by omega)
      rw [d1]; simp only [Option.bind_some]
      rw [if_neg (by simp),d2.x]; simp only [Option.elim_some]
      obtain ⟨e,m2,s2,w1,w2⟩ := zyv (v:=v) d2 (fun b hb=>hb) d3 ha (by omega)
      rw [w1]; simp only [Option.bind_some]
      rcases w2 with ⟨rfl,g1,g2,g3,g4⟩ | ⟨rfl,g1,g2,g3,g4⟩ | ⟨rfl,g1,g2,g3⟩
      · have hg:gM C m2=gM C m' := g3.g d2.mi.len
        obtain ⟨e',o3,m3,s3,q1,q2,q3⟩ := zq9 ha (s9:=s9) N (n + 1) (K + 4 + 8) { o' with X := some m2 } m2 s2 0 (by omega) (by omega) (by omega) rfl (hev.trans g4.toWrD.ev) (.inl ⟨rfl,g1,g2,fun hf=>g4.fz (h3 hf)⟩)
        refine ⟨e',o3,m3,s3,q1,q2,?_⟩
        rcases q3 with ⟨q3,q4,q5,q6,q7,q8⟩ | ⟨q3,q4,q5⟩
        · exact .inl ⟨q3,q4,q5.mono (by omega),q6,q7.trans (g3.dirty.trans d6),q8.trans (g3.copied.trans d7)⟩
        · exact .inr ⟨q3,q4,q5.mono (by omega)⟩
      · have hg:gM C m2=gM C m' := g3.g d2.mi.len
        obtain ⟨e',o3,m3,s3,q1,q2,q3⟩ := zq9 ha (s9:=s9) N (n + 1) (K + 4 + 8) { o' with X := some m2 } m2 s2 18 (by omega) (by omega) (by omega) rfl (hev.trans g4.toWrD.ev) (.inr (.inl ⟨rfl,g1,g2,fun hf=>g4.fz (h3 hf)⟩))
        refine ⟨e',o3,m3,s3,q1,q2,?_⟩
        rcases q3 with ⟨q3,q4,q5,q6,q7,q8⟩ | ⟨q3,q4,q5⟩
        · exact .inl ⟨q3,q4,q5.mono (by omega),q6,q7.trans (g3.dirty.trans d6),q8.trans (g3.copied.trans d7)⟩
        · exact .inr ⟨q3,q4,q5.mono (by omega)⟩
      · have hN:∃ N',N=N' + 1 := ⟨N - 1,by omega⟩
        obtain ⟨N',rfl⟩ := hN
        have hun2:zbm (a:Int) v (N' + 1) { o' with X := some m2 } s2 5 (n + 1)=zbw (a:Int) v (zbm (a:Int) v N') { o' with X := some m2 } s2 5 (n + 1) := rfl
        rw [hun2]
        unfold zbw
        rw [if_neg (fun x=>absurd x.2 (by decide))]
        exact ⟨5,_,m2,s2,rfl,hev.trans g3.ev,.inr ⟨rfl,fun hf=>g1 (h3 hf),g2.mono (by omega)⟩⟩
    · rw [if_neg (fun x=>absurd x.2 (by decide))]
      exact ⟨5,o,m,s,rfl,hev,.inr ⟨rfl,h1,h2.mono (by omega)⟩⟩
theorem owrite (hu:UP C K lv s o m (fun _=>False)) (hnf:NF m) (ha:a < C.sz) (hK:K≤50000) :
    ∃ e o' s',zc1 o (a:Int) v s=some (e,true,o',s')∧Ev C lv s s' (fun r=>r=a / C.rg) ∧
      (e=0∧(s.fuse=0→s'.fuse=0)∧(∃ m',UP C (K + 80) lv s' o' m' (fun _=>False)∧NF m' ∧ m'.dirty=m.dirty∧m'.copied=m.copied)∨e=5∧s.fuse≠0∧DN C (K + 80) lv s' o') := by
  have hF := zbp
  have hg4 := @gM_le C m
  unfold zc1
  rw [hu.x]; simp only [Option.elim_some]
  obtain ⟨e,m2,s2,w1,w2⟩ := zyv (v:=v) hu (fun b hb=>hb.elim) hnf ha (by omega)
  rw [w1]; simp only [Option.bind_some]
  have fin:∀ {e:Int},(Ev C lv s s2 (fun r=>r=a / C.rg))→gM C m2≤4→(e≠5→m2.dirty=m.dirty∧m2.copied=m.copied) →
      (e=0∧NF m2∧UP C (K + 8) lv s2 { o with X := some m2,T := zcq o.T (a:Int) v true } m2 (fun _=>False)∧(s.fuse=0→s2.fuse=0)∨e=18 ∧ ¬ NF m2∧UP C (K + 8) lv s2 { o with X := some m2,T := zcq o.T (a:Int) v false } m2 (fun b=>b=a)∧(s.fuse=0→s2.fuse=0)∨e=5∧s.fuse≠0∧DN C (K + 8) lv s2 { o with X := some m2,T := zcq o.T (a:Int) v false }) →
      ∃ e' o' s',(seqO (zbm (a:Int) v FUEL ({ o with X := (some m2) }) s2 e 0) fun a15 =>
        grd (decide (zj8 a15.2.1.T=true)) <|
        some ((a15.1,((decide (a15.1=(0:Int))) || (decide (a15.1=(5:Int)))), { a15.2.1 with T := (zcq a15.2.1.T (a:Int) v ((decide (a15.1=(0:Int))))) },a15.2.2)))=some (e',true,o',s')∧Ev C lv s s' (fun r=>r=a / C.rg) ∧
      (e' = 0∧(s.fuse=0→s'.fuse=0)∧(∃ m',UP C (K + 80) lv s' o' m' (fun _=>False)∧NF m' ∧ m'.dirty=m.dirty∧m'.copied=m.copied)∨e' = 5∧s.fuse≠0∧DN C (K + 80) lv s' o') := by
    intro e hev hg hdm hc
    obtain ⟨e',o3,m3,s3,q1,q2,q3⟩ := zq9 ha (s9:=s) FUEL 0 (K + 8) { o with X := some m2 } m2 s2 e (by omega) (by omega) (by omega) rfl hev hc
    rw [q1,zd6]
    have hsm:∀ {q:Bool},(zcq o3.T (a:Int) v q).length=C.sz→(∀ b,b < C.sz→((zcq o3.T (a:Int) v q).getD b s0).some.length≤K + 8 + 16 * gM C m2 + 1)→zj8 o3.T=true := fun {q} h8 h9=>by
      have hlen:o3.T.length=C.sz := by
        unfold zcq at h8
        split at h8
        · simpa using h8
        · exact h8
      refine znh (fun b hb => ?_) hlen
      have h7 := h9 b hb
      rw [zk9 (by rw [hlen]; exact ha)] at h7
      split at h7
      · rename_i e; subst e
        have h6:((o3.T.getD b s0).some ++ [v]).length≤K + 8 + 16 * gM C m2 + 1 := h7
        rw [List.length_append] at h6; omega
      · omega
    rcases q3 with ⟨rfl,q4,q5,q6,q7,q8⟩ | ⟨rfl,q4,q5⟩
    · rw [grd_t (decide_eq_true (hsm q5.di.tl q5.sm))]
      by_cases he5:e=5
      · rcases hc with ⟨z, -⟩ | ⟨z, -⟩ | ⟨-,z1,z2⟩
        · rw [he5] at z; cases z
        · rw [he5] at z; cases z
        · subst he5
          obtain ⟨N',hN⟩:∃ N',FUEL=N' + 1 := ⟨FUEL - 1,by omega⟩
          rw [hN] at q1
          have hun2:zbm (a:Int) v (N' + 1) { o with X := some m2 } s2 5 0=zbw (a:Int) v (zbm (a:Int) v N') { o with X := some m2 } s2 5 0 := rfl
          rw [hun2] at q1
          unfold zbw at q1
          rw [if_neg (fun x=>absurd x.2 (by decide))] at q1
          simp at q1
      · obtain ⟨hd1,hd2⟩ := hdm he5
        exact ⟨_,_,_,rfl,q2,.inl ⟨rfl,q6,m3,q5.mono (by omega),q4,q7.trans hd1,q8.trans hd2⟩⟩
    · rw [grd_t (decide_eq_true (hsm q5.di.tl q5.sm))]
      exact ⟨_,_,_,rfl,q2,.inr ⟨rfl,q4,q5.mono (by omega)⟩⟩
  rcases w2 with ⟨rfl,g1,g2,g3,g4⟩ | ⟨rfl,g1,g2,g3,g4⟩ | ⟨rfl,g1,g2,g3⟩
  · exact fin g4.toWrD.ev gM_le (fun _=>⟨g3.dirty,g3.copied⟩) (.inl ⟨rfl,g1,g2,g4.fz⟩)
  · exact fin g4.toWrD.ev gM_le (fun _=>⟨g3.dirty,g3.copied⟩) (.inr (.inl ⟨rfl,g1,g2,g4.fz⟩))
  · exact fin g3.ev gM_le (fun x=>absurd rfl x) (.inr (.inr ⟨rfl,g1,g2⟩))
end
end Go.Proofs
namespace Go.Proofs
open Go.VG
section
variable {C:MC} {K K' a i k:Nat} {s t u y:ArrS} {lv:LV} {m m' x:MirS} {w v:UInt64} {o:OwnS} {ex p:Nat→Prop} {T:List Sec}
theorem fl_di (h:DI C K s T lv) (hk:∀ a,a < C.sz → ∀ j,j < C.L→lv j=true→now s j a=(T.getD a s0).value) (hf:FlD C K' s lv t):DI C K' t T lv := by
  refine ⟨hf.ok,h.tl,h.ex,fun i hi hl=>by rw [hf.miss]; exact h.miss i hi hl,h.lgl,fun b hb j hj hl c hc=>h.cnd b hb j hj hl c (hf.sub j hj hl b hb c hc),hf.head,fun hl r hr => ?_⟩
  rcases hf.c hl with z | z
  · rcases h.c hl r hr with x | ⟨f,x⟩
    · exact .inl (z r hr x)
    · exact .inr ⟨f,fun b hb hbr j hj hlj c hc=>x b hb hbr j hj hlj c (hf.sub j hj hlj b hb c hc)⟩
  · refine .inr ⟨fun b=>(T.getD b s0).value,fun b hb _ j hj hlj c hc => ?_⟩
    rw [z j hj hlj b hb,List.mem_singleton] at hc
    rw [hc]; exact hk b hb j hj hlj
theorem zpn (htl:T.length=C.sz) (ha:a < C.sz):(ze1 T).getD a s0=zf6 (T.getD a s0) := by
  unfold ze1; exact z06 (by omega)
theorem zxf (h:DI C K t T lv) (hk:∀ a,a < C.sz→(T.getD a s0).known=true ∧ ∀ j,j < C.L→lv j=true→now t j a=(T.getD a s0).value) (hc1:∀ j,j < C.L→lv j=true → ∀ b,b < C.sz→cand t j b=[now t j b]):DI C K t (ze1 T) lv := by
  refine ⟨h.ok,by unfold ze1; simp; exact h.tl,h.ex,h.miss,h.lgl,fun b hb j hj hl c hc => ?_,h.head,h.c⟩
  rw [zpn h.tl hb]
  obtain ⟨k1,k2⟩ := hk b hb
  unfold zf6
  rw [if_pos k1]
  rw [hc1 j hj hl b hb,List.mem_singleton] at hc
  rw [hc,k2 j hj hl]; exact List.mem_singleton.2 rfl
theorem zuh (hu:UP C K lv s o m (fun _=>False)) (hnf:NF m) (hK:K≤80000) :
    ∃ e m' s',zgj m s=some (e,m',s')∧Ev C lv s s' p ∧
      (e=0∧NF m' ∧ UP C (K + 12) lv s' { o with X := some m' } m' (fun _=>False)∧Mk m m' ∧ (s.fuse=0→s'.fuse=0)∧(∀ j,j < C.L→lv j=true → ∀ b,b < C.sz→cand s' j b=[now s' j b]) ∨
       e=18 ∧ ¬ NF m' ∧ UP C (K + 12) lv s' { o with X := some m' } m' (fun _=>False)∧Mk m m' ∧ (s.fuse=0→s'.fuse=0) ∨
       e=5∧s.fuse≠0∧DN C (K + 12) lv s' { o with X := some m' }) := by
  obtain ⟨e,m',s',h1,h2⟩ := zxa hu.mi hnf hu.di.ok hu.dn (by omega)
  have hk:∀ a,a < C.sz → ∀ j,j < C.L→lv j=true→now s j a=(o.T.getD a s0).value := fun a ha=>(hu.kn a ha (fun x=>x)).2
  have hoi:FlD C (K + 12) s lv s' → OI C (K + 12) lv s' { o with X := some m' } := fun hf=>by
    have h9:OI C K lv s { o with X := some m' } := hu.oi.set rfl rfl rfl rfl rfl rfl
    exact (h9.arr hf.miss).mono (by omega)
  have hsm:∀ a,a < C.sz→(o.T.getD a s0).some.length≤K + 12 + 1 := fun a ha=>Nat.le_trans (hu.sm a ha) (by omega)
  have hkn:FlD C (K + 12) s lv s' → ∀ a,a < C.sz → ¬ False→(o.T.getD a s0).known=true ∧ ∀ j,j < C.L→lv j=true→now s' j a=(o.T.getD a s0).value := fun hf a ha _=>by
    obtain ⟨k1,k2⟩ := hu.kn a ha (fun x=>x)
    exact ⟨k1,fun j hj hl=>by rw [hf.now j a hj ha]; exact k2 j hj hl⟩
  rcases h2 with ⟨rfl,g1,g2,g3,g4,g5⟩ | ⟨rfl,g1,g2,g3,g4⟩ | ⟨rfl,g1,g2⟩
  · exact ⟨_,m',s',h1,g4.toFlD.ev,.inl ⟨rfl,g1,⟨rfl,hoi g4.toFlD,fl_di hu.di hk g4.toFlD,g2,hkn g4.toFlD,hsm,g4.dn⟩,g3,g4.fz,fun j hj hl b hb=>by rw [g5 j hj hl b hb,g4.now j b hj hb]⟩⟩
  · exact ⟨_,m',s',h1,g4.toFlD.ev,.inr (.inl ⟨rfl,g1,⟨rfl,hoi g4.toFlD,fl_di hu.di hk g4.toFlD,g2,hkn g4.toFlD,hsm,g4.dn⟩,g3,g4.fz⟩)⟩
  · exact ⟨_,m',s',h1,g2.ev,.inr (.inr ⟨rfl,g1,⟨hoi g2,fl_di hu.di hk g2,hsm⟩⟩)⟩
theorem zra {s9:ArrS} : ∀ (N n K:Nat) (o:OwnS) (m:MirS) (s:ArrS) (e:Int),9 - n < N→n + gM C m≤5→K + 16 * gM C m≤70000→Ev C lv s9 s p →
    (e=0∧NF m∧UP C K lv s o m (fun _=>False)∧(s9.fuse=0→s.fuse=0)∧(∀ j,j < C.L→lv j=true → ∀ b,b < C.sz→cand s j b=[now s j b])∨e=18 ∧ ¬ NF m∧UP C K lv s o m (fun _=>False)∧(s9.fuse=0→s.fuse=0)∨e=5∧s9.fuse≠0∧DN C K lv s o) →
    ∃ e' o' m' s',zbo N o s e n=some (.inl (e',o',s'))∧Ev C lv s9 s' p∧(e' = 0∧e≠5∨e' = 5) ∧
      (e' = 0∧NF m' ∧ UP C (K + 16 * gM C m) lv s' o' m' (fun _=>False)∧(s9.fuse=0→s'.fuse=0)∧(∀ j,j < C.L→lv j=true → ∀ b,b < C.sz→cand s' j b=[now s' j b])∧m'.dirty=m.dirty∧m'.copied=m.copied∧o'.T=o.T∨e' = 5∧s9.fuse≠0∧DN C (K + 16 * gM C m) lv s' o')
  | 0,_,_,_,_,_,_,h,_,_,_,_=>absurd h (by omega)
  | N + 1,n,K,o,m,s,e,h,hn,hK,hev,he=>by
    have hun:zbo (N + 1) o s e n=zbx (zbo N) o s e n := rfl
    rw [hun]
    unfold zbx
    rcases he with ⟨rfl,h1,h2,h3,h4⟩ | ⟨rfl,h1,h2,h3⟩ | ⟨rfl,h1,h2⟩
    · rw [if_neg (fun x=>absurd x.2 (by decide))]
      exact ⟨0,o,m,s,rfl,hev,.inl ⟨rfl,by decide⟩,.inl ⟨rfl,h1,h2.mono (by omega),h3,h4,rfl,rfl,rfl⟩⟩
    · rw [if_pos ⟨by omega,rfl⟩]
      obtain ⟨o',m',d1,d2,d3,d4,d5,d6,d7⟩ := h2.dropped h1 (by omega)
      rw [d1]; simp only [Option.bind_some]
      rw [if_neg (by simp),d2.x]; simp only [Option.elim_some]
      obtain ⟨e,m2,s2,w1,w0,w2⟩ := zuh (p:=p) d2 d3 (by omega)
      rw [w1]; simp only [Option.bind_some]
      rcases w2 with ⟨rfl,g1,g2,g3,g4,g5⟩ | ⟨rfl,g1,g2,g3,g4⟩ | ⟨rfl,g1,g2⟩
      · have hg:gM C m2=gM C m' := g3.g d2.mi.len
        obtain ⟨e',o3,m3,s3,q1,q2,q0,q3⟩ := zra (s9:=s9) N (n + 1) (K + 4 + 12) { o' with X := some m2 } m2 s2 0 (by omega) (by omega) (by omega) (hev.trans w0) (.inl ⟨rfl,g1,g2,fun hf=>g4 (h3 hf),g5⟩)
        refine ⟨e',o3,m3,s3,q1,q2,q0.imp (fun z=>⟨z.1,by decide⟩) id,?_⟩
        rcases q3 with ⟨q3,q4,q5,q6,q7,q8,q9,q10⟩ | ⟨q3,q4,q5⟩
        · exact .inl ⟨q3,q4,q5.mono (by omega),q6,q7,q8.trans (g3.dirty.trans d6),q9.trans (g3.copied.trans d7),q10.trans d5⟩
        · exact .inr ⟨q3,q4,q5.mono (by omega)⟩
      · have hg:gM C m2=gM C m' := g3.g d2.mi.len
        obtain ⟨e',o3,m3,s3,q1,q2,q0,q3⟩ := zra (s9:=s9) N (n + 1) (K + 4 + 12) { o' with X := some m2 } m2 s2 18 (by omega) (by omega) (by omega) (hev.trans w0) (.inr (.inl ⟨rfl,g1,g2,fun hf=>g4 (h3 hf)⟩))
        refine ⟨e',o3,m3,s3,q1,q2,q0.imp (fun z=>⟨z.1,by decide⟩) id,?_⟩
        rcases q3 with ⟨q3,q4,q5,q6,q7,q8,q9,q10⟩ | ⟨q3,q4,q5⟩
        · exact .inl ⟨q3,q4,q5.mono (by omega),q6,q7,q8.trans (g3.dirty.trans d6),q9.trans (g3.copied.trans d7),q10.trans d5⟩
        · exact .inr ⟨q3,q4,q5.mono (by omega)⟩
      · have hN:∃ N',N=N' + 1 := ⟨N - 1,by omega⟩
        obtain ⟨N',rfl⟩ := hN
        have hun2:zbo (N' + 1) { o' with X := some m2 } s2 5 (n + 1)=zbx (zbo N') { o' with X := some m2 } s2 5 (n + 1) := rfl
        rw [hun2]
        unfold zbx
        rw [if_neg (fun x=>absurd x.2 (by decide))]
        exact ⟨5,_,m2,s2,rfl,hev.trans w0,.inr rfl,.inr ⟨rfl,fun hf=>g1 (h3 hf),g2.mono (by omega)⟩⟩
    · rw [if_neg (fun x=>absurd x.2 (by decide))]
      exact ⟨5,o,m,s,rfl,hev,.inr rfl,.inr ⟨rfl,h1,h2.mono (by omega)⟩⟩
theorem oflush (hu:UP C K lv s o m (fun _=>False)) (hnf:NF m) (hK:K≤50000) :
    ∃ e o' s',zb5 o s=some (e,true,o',s')∧Ev C lv s s' p ∧
      (e=0∧(s.fuse=0→s'.fuse=0)∧(∃ m',UP C (K + 80) lv s' o' m' (fun _=>False)∧NF m' ∧ m'.dirty=m.dirty∧m'.copied=m.copied)∧(∀ j,j < C.L→lv j=true → ∀ b,b < C.sz→cand s' j b=[now s' j b])∨e=5∧s.fuse≠0∧DN C (K + 80) lv s' o') := by
  have hF := zbp
  unfold zb5
  rw [hu.x]; simp only [Option.elim_some]
  obtain ⟨e,m2,s2,w1,w0,w2⟩ := zuh (p:=p) hu hnf (by omega)
  rw [w1]; simp only [Option.bind_some]
  have hg4 := @gM_le C m2
  have hdm:e≠5→m2.dirty=m.dirty∧m2.copied=m.copied := fun he=>by
    rcases w2 with ⟨-, -, -,g3, -⟩ | ⟨-, -, -,g3, -⟩ | ⟨g, -⟩
    · exact ⟨g3.dirty,g3.copied⟩
    · exact ⟨g3.dirty,g3.copied⟩
    · exact absurd g he
  have hc:(e=0∧NF m2∧UP C (K + 12) lv s2 { o with X := some m2 } m2 (fun _=>False)∧(s.fuse=0→s2.fuse=0)∧(∀ j,j < C.L→lv j=true → ∀ b,b < C.sz→cand s2 j b=[now s2 j b])∨e=18 ∧ ¬ NF m2∧UP C (K + 12) lv s2 { o with X := some m2 } m2 (fun _=>False)∧(s.fuse=0→s2.fuse=0)∨e=5∧s.fuse≠0∧DN C (K + 12) lv s2 { o with X := some m2 }) := by
    rcases w2 with ⟨g0,g1,g2,g3,g4,g5⟩ | ⟨g0,g1,g2,g3,g4⟩ | ⟨g0,g1,g2⟩
    · exact .inl ⟨g0,g1,g2,g4,g5⟩
    · exact .inr (.inl ⟨g0,g1,g2,g4⟩)
    · exact .inr (.inr ⟨g0,g1,g2⟩)
  obtain ⟨e',o3,m3,s3,q1,q2,q0,q3⟩ := zra (s9:=s) (p:=p) FUEL 0 (K + 12) { o with X := some m2 } m2 s2 e (by omega) (by omega) (by omega) w0 hc
  rw [q1,zd6]
  rcases q3 with ⟨rfl,q4,q5,q6,q7,q8,q9,q10⟩ | ⟨rfl,q4,q5⟩
  · rw [if_pos (by simp)]
    have he5:e≠5 := by
      rcases q0 with z | z
      · exact z.2
      · cases z
    obtain ⟨hd1,hd2⟩ := hdm he5
    have hkn:∀ a,a < C.sz→(o3.T.getD a s0).known=true ∧ ∀ j,j < C.L→lv j=true→now s3 j a=(o3.T.getD a s0).value := fun a ha=>q5.kn a ha (fun x=>x)
    refine ⟨_,_,_,rfl,q2,.inl ⟨rfl,q6,⟨m3,⟨q5.x,?_,(zxf q5.di hkn q7).mono (by omega),q5.mi,fun a ha _ => ?_,fun a ha => ?_,q5.dn⟩,q4,q8.trans hd1,q9.trans hd2⟩,q7⟩⟩
    · have h9:OI C (K + 12 + 16 * gM C m2) lv s3 { o3 with T := ze1 o3.T } := q5.oi.set rfl rfl rfl rfl rfl rfl
      exact h9.mono (by omega)
    · show ((ze1 o3.T).getD a s0).known=true ∧ ∀ j,j < C.L→lv j=true→now s3 j a=((ze1 o3.T).getD a s0).value
      rw [zpn q5.di.tl ha]
      obtain ⟨k1,k2⟩ := hkn a ha
      unfold zf6
      rw [if_pos k1]
      exact ⟨k1,k2⟩
    · show ((ze1 o3.T).getD a s0).some.length≤_
      rw [zpn q5.di.tl ha]
      unfold zf6
      rw [if_pos (hkn a ha).1]
      simp
  · rw [if_neg (by simp)]
    exact ⟨_,_,_,rfl,q2,.inr ⟨rfl,q4,q5.mono (by omega)⟩⟩
end
end Go.Proofs
