/- MirrorFills, part 9 of the proof: POwn6, POwn7, POwn8, PWords, PMirB, POwn9, PMirD, PMirS, PTwo, PFol, PFol2, PLoad, PMirrorFills. -/
import Derived.WalkKit
import Derived.Orders
import Derived.RangeFuncLeaves
import Derived.RangeFuncCalls
import Derived.TacticsIn
import Derived.Handy
import Derived.OrdersHeld
import Derived.OrdersIn
import Derived.Below
import Derived.OpenShut
import Derived.Deep.Slices
import Derived.Scope
import Derived.KernelRfl
import Derived.RangeFuncRecord
import Derived.ChangeKeysEq
import Derived.ProofKit
import Derived.ShutString
import Derived.ChangeOld
import Derived.Test.YtcfnikegnhlghaaGreatChecked
import Derived.Test.YtcfnikegnhlghaaGreatRows
import Derived.Test.YtcfnikegnhlghaaGreatZMirrorFills8
namespace Go.Proofs
open Go.VG
structure SP (C:MC) (K:Nat) (lv:LV) (s:ArrS) (o:OwnS) (m:MirS) (i:Nat):Prop where
  x:o.X=some m
  oi:OI C K lv s o
  di:DI C K s o.T lv
  mi:MI C s lv m
  sm:∀ a,a < C.sz→(o.T.getD a s0).some.length≤K + 1
  dn:s.down=false
  fz:s.fuse=0
  one:∀ j,j < C.L→lv j=true → ∀ b,b < C.sz→cand s j b=[now s j b]
  kn:∀ a,a < C.sz→a < i→(o.T.getD a s0).known=true ∧ ∀ j,j < C.L→lv j=true→now s j a=(o.T.getD a s0).value
  un:∀ a,a < C.sz→i≤a→(o.T.getD a s0).known=false∧(m.dirty.getD (a / C.rg) false=false → ∀ j k,j < C.L→lv j=true→k < C.L→lv k=true→now s j a=now s k a)
section
variable {C:MC} {K K' a i k:Nat} {s t u y:ArrS} {lv:LV} {m m' x:MirS} {w v:UInt64} {o:OwnS} {ex p:Nat→Prop} {T:List Sec}
theorem SP.mono (h:SP C K lv s o m i) (hK:K≤K'):SP C K' lv s o m i := { h with oi := h.oi.mono hK,di := h.di.mono hK,sm := fun a ha=>Nat.le_trans (h.sm a ha) (by omega) }
theorem SP.up (h:SP C K lv s o m C.sz):UP C K lv s o m (fun _=>False) := ⟨h.x,h.oi,h.di,h.mi,fun a ha _=>h.kn a ha ha,h.sm,h.dn⟩
theorem SP.dropped (h:SP C K lv s o m i) (hnf:¬ NF m) (hK:K≤80000):∃ o' m',zc7 o s=some (true,o')∧SP C (K + 4) lv s o' m' i∧NF m' ∧ gM C m' < gM C m∧o'.T=o.T∧m'.copied=m.copied := by
  obtain ⟨o',m',h1,h2,h3,h4,h5,h6,h7,h8,h9⟩ := odrop h.x h.oi h.mi h.di.ex hnf (by omega)
  exact ⟨o',m',h1,⟨h2,h3,by rw [h7]; exact h.di.mono (by omega),h4,by rw [h7]; exact fun a ha=>Nat.le_trans (h.sm a ha) (by omega),h.dn,h.fz,h.one,by rw [h7]; exact h.kn,by rw [h7,h8]; exact h.un⟩,h5,h6,h7,h9⟩
theorem SP.fd (h:SP C K lv s o m i) (hf:Fd s m m' 0):SP C K lv s { o with X := some m' } m' i := by
  have e:m'.dirty=m.dirty := by rw [hf.oth]
  exact ⟨rfl,h.oi.set rfl rfl rfl rfl rfl rfl,h.di,h.mi.fd hf,h.sm,h.dn,h.fz,h.one,h.kn,by rw [e]; exact h.un⟩
theorem rd_di (h:DI C K s T lv) (hm:MI C s lv m) (ha:a < C.sz) (h1:∀ j,j < C.L→lv j=true → ∀ b,b < C.sz→cand s j b=[now s j b]) (hd:m.dirty.getD (a / C.rg) false=true) (hr:Rd C K' s lv a t):DI C K' t T lv := by
  refine ⟨hr.ok,h.tl,h.ex,fun i hi hl=>by rw [hr.miss]; exact h.miss i hi hl,h.lgl,fun b hb j hj hl c hc => ?_,fun hl c hc=>h.head hl c (by rw [(hr.log 0 (by decide)).2] at hc; exact hc),fun hl r hrr => ?_⟩
  · rw [hr.one j hj hl b hb,List.mem_singleton] at hc
    subst hc
    by_cases e:b=a
    · subst e
      obtain ⟨f,f1,f2,f3⟩ := hr.at_ j hj hl
      rw [f3]
      exact h.cnd b hb f f1 f2 _ (by rw [h1 f f1 f2 b hb]; exact List.mem_singleton.2 rfl)
    · rw [hr.oth j hj hl b hb e]
      exact h.cnd b hb j hj hl _ (by rw [h1 j hj hl b hb]; exact List.mem_singleton.2 rfl)
  · have hs:SetB C s r→SetB C t r := fun hx c hc=>hx c (by rw [(hr.log 1 (by decide)).2] at hc; exact hc)
    by_cases e:r=a / C.rg
    · exact .inl (hs (hm.d hl r hrr (by rw [e]; exact hd)))
    · rcases h.c hl r hrr with x | ⟨f,x⟩
      · exact .inl (hs x)
      · refine .inr ⟨f,fun b hb hbr j hj hlj c hc=>x b hb hbr j hj hlj c ?_⟩
        have hba:b≠a := fun z=>e (by rw [← hbr,z])
        rw [hr.one j hj hlj b hb,hr.oth j hj hlj b hb hba] at hc
        rw [h1 j hj hlj b hb]; exact hc
theorem SP.rd (h:SP C K lv s o m i) (hi:i < C.sz) (hd:m.dirty.getD (i / C.rg) false=true) (hf:Fd s m m' 0) (hr:Rd C K' s lv i t) (hK:K≤K'):SP C K' lv t { o with X := some m' } m' i := by
  have e:m'.dirty=m.dirty := by rw [hf.oth]
  have h9:OI C K lv s { o with X := some m' } := h.oi.set rfl rfl rfl rfl rfl rfl
  refine ⟨rfl,(h9.arr hr.miss).mono hK,rd_di h.di h.mi hi h.one hd hr,(h.mi.fd hf).arr hr.miss hr.log,fun a ha=>Nat.le_trans (h.sm a ha) (by omega),hr.dn,hr.fz,hr.one,fun a ha hai => ?_,fun a ha hai => ?_⟩
  · obtain ⟨k1,k2⟩ := h.kn a ha hai
    exact ⟨k1,fun j hj hl=>by rw [hr.oth j hj hl a ha (by omega)]; exact k2 j hj hl⟩
  · obtain ⟨k1,k2⟩ := h.un a ha hai
    refine ⟨k1,fun hx j k hj hl hk hlk => ?_⟩
    rw [e] at hx
    by_cases ea:a=i
    · subst ea; rw [hd] at hx; cases hx
    · rw [hr.oth j hj hl a ha ea,hr.oth k hk hlk a ha ea]; exact k2 hx j k hj hl hk hlk
theorem zxg (h:SP C K lv s o m i) (hi:i < C.sz) (hnf:NF m) (hK:K≤80000) :
    ∃ e w m' t,zb4 m (i:Int) s=some (w,e,m',t)∧SP C (K + 8) lv t { o with X := some m' } m' i∧gM C m' = gM C m∧m'.copied=m.copied∧(e=0∧NF m' ∧ (∀ j,j < C.L→lv j=true→now t j i=w)∨e=18 ∧ ¬ NF m') := by
  by_cases hd:m.dirty.getD (i / C.rg) false=true
  · obtain ⟨m',t,h1,h2,h3⟩ := read_s h.mi h.oi.nc hnf h.di.ok h.dn (by omega) hi h.di.ex h.fz h.one hd
    have hsp := h.rd hi hd h1 h2 (by omega)
    have hg := h1.mks.g h.mi.len
    have hc := h1.mks.copied
    rcases h3 with ⟨⟨w,h3,h4⟩,h5⟩ | ⟨⟨w,h3⟩,h5⟩
    · exact ⟨_,_,_,_,h3,hsp,hg,hc,.inl ⟨rfl,h5,h4⟩⟩
    · exact ⟨_,_,_,_,h3,hsp,hg,hc,.inr ⟨rfl,h5⟩⟩
  · rw [Bool.not_eq_true] at hd
    obtain ⟨j0,hj0,hl0⟩ := h.di.ex
    have hw:∀ j,j < C.L→lv j=true→now s j i=now s j0 i := fun j hj hl=>(h.un i hi (Nat.le_refl _)).2 hd j j0 hj hl hj0 hl0
    obtain ⟨m',h1,h3⟩ := zw8 h.mi h.oi.nc hnf h.di.ok h.dn hi h.di.ex hw
    have hsp := (h.fd h1).mono (show K≤K + 8 by omega)
    have hg := h1.mks.g h.mi.len
    have hc := h1.mks.copied
    rcases h3 with ⟨h3,h5⟩ | ⟨⟨w,h3⟩,h5⟩
    · exact ⟨_,_,_,_,h3,hsp,hg,hc,.inl ⟨rfl,h5,hw⟩⟩
    · exact ⟨_,_,_,_,h3,hsp,hg,hc,.inr ⟨rfl,h5⟩⟩
theorem ztt (hi:i < C.sz):∀ (N n K:Nat) (o:OwnS) (m:MirS) (s:ArrS) (w0:UInt64) (e:Int),9 - n < N→n + gM C m≤5→K + 16 * gM C m≤70000→SP C K lv s o m i→(e=0∧NF m∧(∀ j,j < C.L→lv j=true→now s j i=w0)∨e=18 ∧ ¬ NF m) →
    ∃ o' m' s' w,zbs (i:Int) N o s n w0 e=some (.inl (w,0,o',s'))∧SP C (K + 16 * gM C m) lv s' o' m' i∧NF m' ∧ (∀ j,j < C.L→lv j=true→now s' j i=w)∧m'.copied=m.copied
  | 0,_,_,_,_,_,_,_,h,_,_,_,_=>absurd h (by omega)
  | N + 1,n,K,o,m,s,w0,e,h,hn,hK,hu,he=>by
    have hun:zbs (i:Int) (N + 1) o s n w0 e=zcc (i:Int) (zbs (i:Int) N) o s n w0 e := rfl
    rw [hun]
    unfold zcc
    rcases he with ⟨rfl,h1,h2⟩ | ⟨rfl,h1⟩
    · rw [if_neg (fun x=>absurd x.2 (by decide))]
      exact ⟨o,m,s,w0,rfl,hu.mono (by omega),h1,h2,rfl⟩
    · rw [if_pos ⟨by omega,rfl⟩]
      obtain ⟨o',m',d1,d2,d3,d4,d5,d6⟩ := hu.dropped h1 (by omega)
      rw [d1]; simp only [Option.bind_some]
      rw [if_neg (by simp),d2.x]; simp only [Option.elim_some]
      obtain ⟨e,w,m2,t,r1,r2,r3,r5,r4⟩ := zxg d2 hi d3 (by omega)
      rw [r1]; simp only [Option.bind_some]
      obtain ⟨o3,m3,s3,w3,g1,g2,g3,g4,g5⟩ := ztt hi N (n + 1) (K + 4 + 8) _ m2 t w e (by omega) (by omega) (by omega) r2 r4
      exact ⟨o3,m3,s3,w3,g1,g2.mono (by omega),g3,g4,g5.trans (r5.trans d6)⟩
theorem z3y (h:SP C K lv s o m i) (hi:i < C.sz) (hnf:NF m) (hK:K≤50000) :
    ∃ o' m' s',zb9 o (i:Int) true s=some (0,true,o',s')∧SP C (K + 80) lv s' o' m' (i + 1)∧NF m' ∧ m'.copied=m.copied := by
  have hF := zbp
  unfold zb9
  rw [h.x]; simp only [Option.elim_some]
  obtain ⟨e,w,m2,t,r1,r2,r3,r5,r4⟩ := zxg h hi hnf (by omega)
  have hg4 := @gM_le C m2
  rw [r1]; simp only [Option.bind_some]
  obtain ⟨o3,m3,s3,w3,g1,g2,g3,g4,g5⟩ := ztt hi FUEL 0 (K + 8) _ m2 t w e (by omega) (by omega) (by omega) r2 r4
  rw [g1,zd6]
  have hil:i < o3.T.length := by rw [g2.di.tl]; exact hi
  have hl:0≤(i:Int)∧(i:Int) < (o3.T.length:Int) := ⟨by omega,by omega⟩
  rw [if_neg (by simp),if_pos rfl,grd_t (decide_eq_true (znh (fun a ha=>Nat.le_trans (g2.sm a ha) (by omega)) g2.di.tl))]
  obtain ⟨k1,k2⟩ := g2.un i hi (Nat.le_refl _)
  have kn':¬ (o3.T.getD i s0).known=true := by rw [k1]; decide
  obtain ⟨j0,hj0,hl0⟩ := g2.di.ex
  have hin:w3 ∈ (o3.T.getD i s0).some := g2.di.cnd i hi j0 hj0 hl0 w3 (by rw [g2.one j0 hj0 hl0 i hi,g4 j0 hj0 hl0]; exact List.mem_singleton.2 rfl)
  have e2:rdTR o3.T (i:Int) w3=true := by
    unfold rdTR
    rw [if_pos hl,Int.toNat_natCast,if_neg kn',List.any_eq_true]
    exact ⟨w3,hin,decide_eq_true rfl⟩
  have e3:rdTS o3.T (i:Int) w3 true=o3.T.set i ⟨[w3],true,w3⟩ := by
    unfold rdTS
    rw [if_pos hl,Int.toNat_natCast,if_neg kn',if_pos rfl]
  rw [e2,e3]
  have hat:∀ b,(o3.T.set i ⟨[w3],true,w3⟩).getD b s0=if b=i then ⟨[w3],true,w3⟩ else o3.T.getD b s0 := fun b=>z05 hil
  refine ⟨{ o3 with T := o3.T.set i ⟨[w3],true,w3⟩ },m3,s3,rfl,⟨g2.x,?_,?_,g2.mi,fun a ha => ?_,g2.dn,g2.fz,g2.one,fun a ha hai => ?_,fun a ha hai => ?_⟩,g3,g5.trans r5⟩
  · have h9:OI C (K + 8 + 16 * gM C m2) lv s3 { o3 with T := o3.T.set i ⟨[w3],true,w3⟩ } := g2.oi.set rfl rfl rfl rfl rfl rfl
    exact h9.mono (by omega)
  · have hd := g2.di.mono (show K + 8 + 16 * gM C m2≤K + 80 by omega)
    refine { hd with tl := by simp [g2.di.tl],cnd := fun a ha j hj hlj c hc => ?_ }
    show c ∈ ((o3.T.set i ⟨[w3],true,w3⟩).getD a s0).some
    rw [hat]
    split
    · rename_i e; subst e
      rw [g2.one j hj hlj a ha,g4 j hj hlj] at hc
      exact hc
    · exact g2.di.cnd a ha j hj hlj c hc
  · show ((o3.T.set i ⟨[w3],true,w3⟩).getD a s0).some.length≤_
    rw [hat]
    split
    · simp
    · exact Nat.le_trans (g2.sm a ha) (by omega)
  · show ((o3.T.set i ⟨[w3],true,w3⟩).getD a s0).known=true ∧ ∀ j,j < C.L→lv j=true→now s3 j a=((o3.T.set i ⟨[w3],true,w3⟩).getD a s0).value
    rw [hat]
    split
    · rename_i e; subst e; exact ⟨rfl,g4⟩
    · exact g2.kn a ha (by omega)
  · show ((o3.T.set i ⟨[w3],true,w3⟩).getD a s0).known=false∧_
    rw [hat,if_neg (by omega)]
    exact g2.un a ha (by omega)
theorem zvf:∀ (N i K:Nat) (o:OwnS) (m:MirS) (s:ArrS),C.sz - i < N→i≤C.sz→K + 80 * (C.sz - i)≤50000→SP C K lv s o m i→NF m →
    ∃ o' m' s',zcf true N o s i=some (.inl (o',s'))∧SP C (K + 80 * (C.sz - i)) lv s' o' m' C.sz∧NF m' ∧ m'.copied=m.copied
  | 0,_,_,_,_,_,h,_,_,_,_=>absurd h (by omega)
  | N + 1,i,K,o,m,s,h,hi,hK,hp,hnf=>by
    have hs := C.hs
    have hun:zcf true (N + 1) o s i=zdn true (zcf true N) o s i := rfl
    rw [hun]
    unfold zdn
    by_cases hlt:i < C.sz
    · rw [if_pos (by rw [hp.di.tl]; omega)]
      obtain ⟨o',m',s',r1,r2,r3,r4⟩ := z3y hp hlt hnf (by omega)
      rw [r1]; simp only [Option.bind_some]
      rw [if_neg (by simp),grd_t (zdy (by omega))]
      obtain ⟨o3,m3,s3,g1,g2,g3,g4⟩ := zvf N (i + 1) (K + 80) o' m' s' (by omega) (by omega) (by omega) r2 r3
      exact ⟨o3,m3,s3,g1,g2.mono (by omega),g3,g4.trans r4⟩
    · rw [if_neg (by rw [hp.di.tl]; omega)]
      have:i=C.sz := by omega
      subst this
      exact ⟨o,m,s,rfl,hp.mono (by omega),hnf,rfl⟩
theorem z07 (h:SP C K lv s o m 0) (hnf:NF m) (hK:K≤40000):∃ o' m' s',zbl o true s=some (true,o',s')∧SP C (K + 960) lv s' o' m' C.sz∧NF m' ∧ m'.copied=m.copied := by
  have hF := zbp
  have hs := C.hs
  unfold zbl
  obtain ⟨o',m',s',h1,h2,h3,h4⟩ := zvf FUEL 0 K o m s (by omega) (by omega) (by omega) h hnf
  rw [h1,zd6]
  exact ⟨o',m',s',rfl,h2.mono (by omega),h3,h4⟩
theorem zrb {q:Bool} : ∀ (N i K:Nat) (o:OwnS) (m:MirS),C.sz - i < N→i≤C.sz→K + 20 * (C.sz - i)≤50000→UP C K lv s o m (fun _=>False)→NF m →
    ∃ o' m',zcf q N o s i=some (.inl (o',s))∧UP C (K + 20 * (C.sz - i)) lv s o' m' (fun _=>False)∧NF m' ∧ o'.T=o.T∧m'.dirty=m.dirty∧m'.copied=m.copied
  | 0,_,_,_,_,h,_,_,_,_=>absurd h (by omega)
  | N + 1,i,K,o,m,h,hi,hK,hp,hnf=>by
    have hs := C.hs
    have hun:zcf q (N + 1) o s i=zdn q (zcf q N) o s i := rfl
    rw [hun]
    unfold zdn
    by_cases hlt:i < C.sz
    · rw [if_pos (by rw [hp.di.tl]; omega)]
      obtain ⟨o',m',r1,r2,r3,r4,r5,r6⟩ := oread (q:=q) hp hnf hlt (by omega)
      rw [r1]; simp only [Option.bind_some]
      rw [if_neg (by simp),grd_t (zdy (by omega))]
      obtain ⟨o3,m3,g1,g2,g3,g4,g5,g6⟩ := zrb (q:=q) N (i + 1) (K + 20) o' m' (by omega) (by omega) (by omega) r2 r3
      exact ⟨o3,m3,g1,g2.mono (by omega),g3,g4.trans r4,g5.trans r5,g6.trans r6⟩
    · rw [if_neg (by rw [hp.di.tl]; omega)]
      exact ⟨o,m,rfl,hp.mono (by omega),hnf,rfl,rfl,rfl⟩
theorem z08 {q:Bool} (h:UP C K lv s o m (fun _=>False)) (hnf:NF m) (hK:K≤40000):∃ o' m',zbl o q s=some (true,o',s)∧UP C (K + 240) lv s o' m' (fun _=>False)∧NF m' ∧ o'.T=o.T∧m'.dirty=m.dirty∧m'.copied=m.copied := by
  have hF := zbp
  have hs := C.hs
  unfold zbl
  obtain ⟨o',m',h1,h2,h3,h4,h5,h6⟩ := zrb (q:=q) FUEL 0 K o m (by omega) (by omega) (by omega) h hnf
  rw [h1,zd6]
  exact ⟨o',m',rfl,h2.mono (by omega),h3,h4,h5,h6⟩
end
end Go.Proofs
namespace Go.Proofs
open Go.VG
section
variable {C:MC} {K K' a i k:Nat} {s t u y:ArrS} {lv:LV} {m m' x:MirS} {w v:UInt64} {o:OwnS} {ex p:Nat→Prop} {T:List Sec}
theorem OI.rg (h:OI C K lv s o):∀ k ∈ o.Stale,0≤k∧k≤(C.L:Int) := fun k hk=>by
  obtain ⟨i,hi,rfl, -⟩ := h.st k hk; omega
theorem OI.notin (h:OI C K lv s o) {i:Nat} (hl:lv i=true):(i:Int) ∉ o.Stale := fun hi=>by
  obtain ⟨j, -,e,hj⟩ := h.st _ hi
  have:j=i := by omega
  subst this; rw [hl] at hj; cases hj
theorem zyw (hoi:OI C K lv s o) (hms:∀ i,i≤C.L→lv i=true→miss s i=false) {d:List Bool} (hd:d.length=C.R) {lg:Option LogS} {ls:Int} (hlog:lv C.L=true∧ls=0∧(∃ g,lg=some g∧LI C s g)∧(∀ r,r < C.R→d.getD r false=true→SetB C s r)∨lv C.L=false∧lg=none∧ls=2) :
    MI C s lv ⟨legsM C o.Stale C.L,lg,C.lg,ls,(C.sz:Int),(C.rg:Int),d,0⟩∧NF ⟨legsM C o.Stale C.L,lg,C.lg,ls,(C.sz:Int),(C.rg:Int),d,0⟩ := by
  have hat:∀ i,i < C.L→(legsM C o.Stale C.L).getD i mleg_x0=legM C o.Stale i := fun i hi=>z2j hi
  refine ⟨⟨zq7,fun i hi => ?_,rfl,rfl,rfl,hd,?_,fun hl r hr hdr => ?_⟩,⟨fun i hi hs => ?_,fun hs => ?_⟩⟩
  · unfold stM
    rw [hat i hi]
    refine ⟨rfl,.inl (hoi.nc i hi).symm,?_⟩
    unfold legM
    cases hl:lv i
    · refine .inr ⟨rfl,?_⟩
      by_cases hin:(i:Int) ∈ o.Stale
      · rw [if_pos hin]; exact .inl rfl
      · rw [if_neg hin]
        rcases hoi.nl i (by omega) hl with z | z | ⟨z, -⟩
        · exact absurd z hin
        · exact .inr ⟨z,.inl rfl⟩
        · omega
    · rw [if_neg (hoi.notin hl)]
      exact .inl ⟨rfl,rfl,hms i (by omega) hl⟩
  · rcases hlog with ⟨h1,h2,⟨g,h3,h4⟩, -⟩ | ⟨h1,h2,h3⟩
    · exact .inl ⟨h1,h2,hms _ (Nat.le_refl _) h1,g,h3,h4⟩
    · exact .inr ⟨h1,.inl ⟨h2,h3⟩⟩
  · rcases hlog with ⟨-, -, -,h4⟩ | ⟨h1, -⟩
    · exact h4 r hr hdr
    · rw [h1] at hl; cases hl
  · have hi':i < C.L := by have h9 := @zq7 C o.Stale C.L; exact h9 ▸ hi
    unfold stM at hs
    rw [hat i hi'] at hs
    unfold legM at hs
    split at hs <;> cases hs
  · rcases hlog with ⟨-,h2, -⟩ | ⟨-, -,h2⟩
    · rw [h2] at hs; cases hs.2
    · rw [h2] at hs; cases hs.2
structure Op (C:MC) (K:Nat) (lv:LV) (s:ArrS) (o o':OwnS) (m:MirS):Prop where
  oi:OI C K lv s o'
  T:o'.T=o.T
  mi:MI C s lv m
  nf:NF m
  copied:m.copied=0
  dirty:∀ r,r < C.R→(m.dirty.getD r false=true↔(lv C.L=true→tb (now s C.L 1) r=true))
theorem z09 (hoi:OI C K lv s o) (hms:∀ i,i≤C.L→lv i=true→miss s i=false) (hok:ArrOk C.ns K s) (hdn:s.down=false) (hex:∃ i,i < C.L∧lv i=true) (hlgl:lv C.L=true→C.lg=true) (hK:K≤90000)
    (hh:lv C.L=true → ∀ c ∈ cand s C.L 0,c=headL C.R) (h1:lv C.L=true→cand s C.L 1=[now s C.L 1]) :
    (∃ m,za5 o.Stale s (C.L:Int) (C.sz:Int) (C.rg:Int) C.lg=some (some m,0)∧Op C K lv s o o m) ∨
    (za5 o.Stale s (C.L:Int) (C.sz:Int) (C.rg:Int) C.lg=some (none,18)∧C.lg=true∧(C.L:Int) ∉ o.Stale∧miss s C.L=true∧lv C.L=false) := by
  obtain ⟨j0,hj0,hl0⟩ := hex
  have hhead:lv C.L=true→now s C.L 0=headL C.R := fun hl=>hh hl _ (hok.now_cand logL (by rw [MC.log]; decide))
  cases hl:lv C.L
  · by_cases hc:C.lg=true∧(C.L:Int) ∉ o.Stale
    · have hm:miss s C.L=true := by
        rcases hoi.nl C.L (Nat.le_refl _) hl with z | z | ⟨-,z⟩
        · exact absurd z hc.2
        · exact z
        · rw [hc.1] at z; cases z
      obtain ⟨-,o2, -⟩ := zq8 hok hdn hoi.rg (by have := hoi.sl; omega) ⟨j0,hj0,hoi.notin hl0⟩ (fun _ _ hx=>by rw [hm] at hx; cases hx)
      exact .inr ⟨o2 hc.1 hc.2 hm,hc.1,hc.2,hm,rfl⟩
    · obtain ⟨o1, -, -⟩ := zq8 hok hdn hoi.rg (by have := hoi.sl; omega) ⟨j0,hj0,hoi.notin hl0⟩ (fun z1 z2 _=>absurd ⟨z1,z2⟩ hc)
      obtain ⟨d,d1,d2,d3⟩ := o1 hc
      obtain ⟨g1,g2⟩ := zyw hoi hms d1 (lg:=none) (ls:=2) (.inr ⟨hl,rfl,rfl⟩)
      exact .inl ⟨_,d3,hoi,rfl,g1,g2,rfl,fun r hr=>⟨fun _ hx=>(by rw [hl] at hx; cases hx),fun _=>d2 r hr⟩⟩
  · have hlg := hlgl hl
    obtain ⟨-, -,o3⟩ := zq8 hok hdn hoi.rg (by have := hoi.sl; omega) ⟨j0,hj0,hoi.notin hl0⟩ (fun _ _ _=>hhead hl)
    obtain ⟨d,d1,d2,d3⟩ := o3 hlg (hoi.notin hl) (hms _ (Nat.le_refl _) hl)
    have hset:∀ r,r < C.R→d.getD r false=true→SetB C s r := fun r hr hd c hc=>by
      rw [h1 hl,List.mem_singleton] at hc
      rw [hc]; exact (d2 r hr).1 hd
    have hbl:(openL (xL C.L 3) C.R (now s C.L)).bits.getD 0 0=now s C.L 1 := by
      have:(openL (xL C.L 3) C.R (now s C.L)).bits=(List.range (nW C.R)).map fun i=>now s C.L (1 + i) := rfl
      rw [this,zm5 (by rw [MC.nW1]; decide)]
    have hli:LI C s (openL (xL C.L 3) C.R (now s C.L)) := ⟨⟨rfl,rfl,by simp [openL],List.nodup_nil⟩,hh hl,hbl.symm,fun r hr hd=>by simp [openL,lookM] at hd⟩
    obtain ⟨g1,g2⟩ := zyw hoi hms d1 (lg:=some (openL (xL C.L 3) C.R (now s C.L))) (ls:=0) (.inl ⟨hl,rfl,⟨_,rfl,hli⟩,hset⟩)
    rw [hlg] at g1 g2
    rw [hlg] at d3 ⊢
    exact .inl ⟨_,d3,hoi,rfl,g1,g2,rfl,fun r hr=>⟨fun hx _=>(d2 r hr).1 hx,fun hx=>(d2 r hr).2 (hx hl)⟩⟩
theorem zvg (hms:∀ i,i≤C.L→lv i=true→miss s i=false) (hok:ArrOk C.ns K s) (hdn:s.down=false) (hex:∃ i,i < C.L∧lv i=true) (hlgl:lv C.L=true→C.lg=true) (hK:K≤80000)
    (hh:lv C.L=true → ∀ c ∈ cand s C.L 0,c=headL C.R) (h1:lv C.L=true→cand s C.L 1=[now s C.L 1]):∀ (N i:Nat) (o:OwnS) (X:Option MirS) (e:Int),o.Lost.length - i < N→i≤o.Lost.length→OI C (K + i) lv s o→(e=0∧(∃ m,X=some m∧Op C (K + i) lv s o o m)∨e=18∧C.lg=true∧(C.L:Int) ∉ o.Stale∧miss s C.L=true∧lv C.L=false ∧ ∃ j,i≤j∧j < o.Lost.length∧o.Lost.getD j 0=(C.L:Int)) →
    ∃ o' m,zcj s N o X e i=some (some m,0,o')∧Op C (K + o.Lost.length) lv s o o' m
  | 0,_,_,_,_,h,_,_,_=>absurd h (by omega)
  | N + 1,i,o,X,e,h,hi,hoi,he=>by
    have hun:zcj s (N + 1) o X e i=zen s (zcj s N) o X e i := rfl
    rw [hun]
    unfold zen
    have hll:o.Lost.length≤10 := by rw [hoi.ll.1]; exact hoi.ll.2
    rcases he with ⟨rfl,m,rfl,h2⟩ | ⟨rfl,h2,h3,h4,h5,j,j1,j2,j3⟩
    · rw [if_neg (fun x=>absurd x.2 (by decide))]
      exact ⟨o,m,rfl,⟨h2.oi.mono (by omega),rfl,h2.mi,h2.nf,h2.copied,h2.dirty⟩⟩
    · rw [if_pos ⟨by omega,rfl⟩]
      have hlt:i < o.Lost.length := by omega
      obtain ⟨k,k1,k2,k3⟩ := hoi.lr (o.Lost.getD i 0) (by simp [List.getD,hlt])
      rw [k2]
      obtain ⟨l',l1,l2,l3⟩ := zxd (l:=o.Stale) (n:=(k:Int)) (by omega) (fun z hz=>(hoi.rg z hz).1) (by have := hoi.sl; omega)
      rw [l1]; simp only [Option.bind_some]
      have hoi2:OI C (K + (i + 1)) lv s { o with Stale := l' } := hoi.stale k1 k3 l2 l3 rfl rfl rfl rfl rfl rfl
      have hop := z09 (o := { o with Stale := l' }) hoi2 hms (hok.mono (by omega)) hdn hex hlgl (by omega) hh h1
      have hargs:za5 l' s o.Open_1 o.Open_2 o.Open_3 o.Open_4=za5 l' s (C.L:Int) (C.sz:Int) (C.rg:Int) C.lg := by rw [hoi.o1,hoi.o2,hoi.o3,hoi.o4]
      rw [hargs]
      have fin:∀ {X:Option MirS} {e:Int},za5 l' s (C.L:Int) (C.sz:Int) (C.rg:Int) C.lg=some (X,e)→(e=0∧(∃ m,X=some m∧Op C (K + (i + 1)) lv s { o with Stale := l' } { o with Stale := l' } m)∨e=18∧C.lg=true∧(C.L:Int) ∉ l' ∧ miss s C.L=true∧lv C.L=false ∧ ∃ j,i + 1≤j∧j < o.Lost.length∧o.Lost.getD j 0=(C.L:Int)) →
          ∃ o' m,(Option.bind (za5 l' s (C.L:Int) (C.sz:Int) (C.rg:Int) C.lg) fun r42=>zcj s N ({ o with Stale := l' }) r42.1 r42.2 (i + 1))=some (some m,0,o')∧Op C (K + o.Lost.length) lv s o o' m := by
        intro X e e1 e2
        rw [e1]; simp only [Option.bind_some]
        obtain ⟨o',m,q1,q2⟩ := zvg hms hok hdn hex hlgl hK hh h1 N (i + 1) { o with Stale := l' } X e (by show o.Lost.length - (i + 1) < N; omega) (by show i + 1≤o.Lost.length; omega) hoi2 e2
        exact ⟨o',m,q1,⟨q2.oi,q2.T,q2.mi,q2.nf,q2.copied,q2.dirty⟩⟩
      rcases hop with ⟨m,q1,q2⟩ | ⟨q1,q2,q3,q4,q5⟩
      · exact fin q1 (.inl ⟨rfl,m,rfl,q2⟩)
      · refine fin q1 (.inr ⟨rfl,q2,q3,q4,q5,j,?_,j2,j3⟩)
        rcases Nat.lt_or_ge i j with z | z
        · exact z
        · have:j=i := by omega
          subst this
          rw [k2] at j3
          exact absurd ((l3 _).2 (.inr (by omega))) q3
theorem z1a (hoi:OI C K lv s o) (hms:∀ i,i≤C.L→lv i=true→miss s i=false) (hok:ArrOk C.ns K s) (hdn:s.down=false) (hex:∃ i,i < C.L∧lv i=true) (hlgl:lv C.L=true→C.lg=true) (hK:K≤80000)
    (hh:lv C.L=true → ∀ c ∈ cand s C.L 0,c=headL C.R) (h1:lv C.L=true→cand s C.L 1=[now s C.L 1]) (htl:o.T.length=C.sz) :
    ∃ o' m,zdg o s=some (true,o')∧o'.X=some m∧Op C (K + 10) lv s o o' m := by
  have hF := zbp
  have hll:o.Lost.length≤10 := by rw [hoi.ll.1]; exact hoi.ll.2
  unfold zdg
  have hop := z09 hoi hms hok hdn hex hlgl (by omega) hh h1
  have hargs:za5 o.Stale s o.Open_1 o.Open_2 o.Open_3 o.Open_4=za5 o.Stale s (C.L:Int) (C.sz:Int) (C.rg:Int) C.lg := by rw [hoi.o1,hoi.o2,hoi.o3,hoi.o4]
  rw [hargs]
  have fin:∀ {X:Option MirS} {e:Int},za5 o.Stale s (C.L:Int) (C.sz:Int) (C.rg:Int) C.lg=some (X,e)→(e=0∧(∃ m,X=some m∧Op C (K + 0) lv s o o m)∨e=18∧C.lg=true∧(C.L:Int) ∉ o.Stale∧miss s C.L=true∧lv C.L=false ∧ ∃ j,0≤j∧j < o.Lost.length∧o.Lost.getD j 0=(C.L:Int)) →
      ∃ o' m,(Option.bind (za5 o.Stale s (C.L:Int) (C.sz:Int) (C.rg:Int) C.lg) fun r5 =>
        Option.bind (zcj s FUEL o r5.1 r5.2 0) fun a16 =>
        if (a16.2.1=(0:Int)) then
          Option.elim a16.1 (
            if false=true then
              none
            else
              some (false, { a16.2.2 with X := none })) fun o54 =>
          if true=true then
            Option.bind (zg1 o54 s) fun r55 =>
            some (((decide (r55=((a16.2.2.T.length:Nat):Int))), { a16.2.2 with X := (some o54) }))
          else
            some ((false, { a16.2.2 with X := (some o54) }))
        else
          if false=true then
            Option.elim a16.1 (
              none) fun o58 =>
            Option.bind (zg1 o58 s) fun r59 =>
            some (((decide (r59=((a16.2.2.T.length:Nat):Int))), { a16.2.2 with X := (some o58) }))
          else
            some (false, { a16.2.2 with X := a16.1 }))=some (true,o')∧o'.X=some m∧Op C (K + 10) lv s o o' m := by
    intro X e e1 e2
    rw [e1]; simp only [Option.bind_some]
    obtain ⟨o',m,q1,q2⟩ := zvg hms hok hdn hex hlgl hK hh h1 FUEL 0 o X e (by omega) (by omega) (hoi.mono (by omega)) e2
    rw [q1]; simp only [Option.bind_some,Option.elim_some]
    rw [if_pos trivial,if_pos trivial]
    unfold zg1
    simp only [Option.bind_some]
    have hdec:decide (m.size=((o'.T.length:Nat):Int))=true := by rw [q2.mi.size,q2.T,htl]; exact decide_eq_true rfl
    rw [hdec]
    have h9:OI C (K + o.Lost.length) lv s { o' with X := some m } := q2.oi.set rfl rfl rfl rfl rfl rfl
    exact ⟨_,m,rfl,rfl,⟨h9.mono (by omega),q2.T,q2.mi,q2.nf,q2.copied,q2.dirty⟩⟩
  rcases hop with ⟨m,q1,q2⟩ | ⟨q1,q2,q3,q4,q5⟩
  · exact fin q1 (.inl ⟨rfl,m,rfl,q2⟩)
  · obtain ⟨j,hj,e⟩ := List.mem_iff_getElem.1 (hoi.lo C.L (Nat.le_refl _) q4)
    exact fin q1 (.inr ⟨rfl,q2,q3,q4,q5,j,by omega,hj,by simp [List.getD,hj,e]⟩)
theorem zsq (htl:T.length=C.sz) (ha:a < C.sz):(zji T).getD a s0=failX (T.getD a s0) := by
  unfold zji; exact z06 (by omega)
theorem z1b (h:DN C K lv s o) (hK:K≤80000) {kp:UInt64} : ∃ o' m s',zc0 o kp s=some (true,o',s')∧SP C (K + 10) lv s' o' m 0∧NF m∧m.copied=0 := by
  obtain ⟨ks,hks⟩ := z3x kp
  have hr := h.di.ok.rs ks
  have hL := C.hL
  unfold zc0
  rw [hks]; simp only [Option.bind_some]
  rw [grd_t (zd5 (by have := h.di.ok.wr; omega))]
  have hin:∀ i,i < C.L→i < C.ns.length := fun i hi=>by rw [MC.len]; omega
  have hsub:∀ i,i < C.L → ∀ b,b < C.sz → ∀ c ∈ cand (rsS s ks) i b,c ∈ cand s i b := fun i hi b hb c hc=>by
    rw [hr.cand,List.mem_singleton] at hc
    rw [hc]; exact hr.now i b (hin i hi) (by rw [MC.leg hi]; exact hb)
  have hsubL:∀ b,b < 3 → ∀ c ∈ cand (rsS s ks) C.L b,c ∈ cand s C.L b := fun b hb c hc=>by
    rw [hr.cand,List.mem_singleton] at hc
    rw [hc]; exact hr.now C.L b logL (by rw [MC.log]; exact hb)
  have hset:∀ r,SetB C s r→SetB C (rsS s ks) r := fun r hx c hc=>hx c (hsubL 1 (by decide) c hc)
  have hdi:DI C K (rsS s ks) (zji o.T) lv := by
    refine ⟨hr.ok,by unfold zji; simp; exact h.di.tl,h.di.ex,fun i hi hl=>by rw [hr.miss]; exact h.di.miss i hi hl,h.di.lgl,fun a ha i hi hl c hc => ?_,fun hl c hc=>h.di.head hl c (hsubL 0 (by decide) c hc),fun hl r hrr => ?_⟩
    · rw [zsq h.di.tl ha]
      exact h.di.cnd a ha i hi hl c (hsub i hi a ha c hc)
    · rcases h.di.c hl r hrr with z | ⟨f,z⟩
      · exact .inl (hset r z)
      · exact .inr ⟨f,fun b hb hbr j hj hlj c hc=>z b hb hbr j hj hlj c (hsub j hj b hb c hc)⟩
  have h9:OI C K lv s { o with T := zji o.T } := h.oi.set rfl rfl rfl rfl rfl rfl
  obtain ⟨o',m,b1,b2,b3⟩ := z1a (o := { o with T := zji o.T }) (h9.arr hr.miss) hdi.miss hdi.ok hr.dn hdi.ex hdi.lgl hK hdi.head (fun _=>hr.cand C.L 1) hdi.tl
  have hT:o'.T=zji o.T := b3.T
  rw [b1]; simp only [Option.bind_some]
  refine ⟨o',m,_,rfl,⟨b2,b3.oi,by rw [hT]; exact hdi.mono (by omega),b3.mi,fun a ha => ?_,hr.dn,hr.fuse,fun j _ _ b _=>hr.cand j b,fun a _ ha=>absurd ha (by omega),fun a ha _ => ?_⟩,b3.nf,b3.copied⟩
  · rw [hT,zsq h.di.tl ha]
    exact Nat.le_trans (h.sm a ha) (by omega)
  · rw [hT,zsq h.di.tl ha]
    refine ⟨rfl,fun hd j k hj hlj hk hlk => ?_⟩
    have hrr := MC.reg ha
    have hnd:¬ (lv C.L=true→tb (now (rsS s ks) C.L 1) (a / C.rg)=true) := fun z=>by
      have := (b3.dirty _ hrr).2 z
      rw [hd] at this; cases this
    rw [Classical.not_imp] at hnd
    obtain ⟨hl,hnb⟩ := hnd
    rcases hdi.c hl _ hrr with z | ⟨f,z⟩
    · exact absurd (z _ (by rw [hr.cand]; exact List.mem_singleton.2 rfl)) hnb
    · rw [z a ha rfl j hj hlj (now (rsS s ks) j a) (by rw [hr.cand]; exact List.mem_singleton.2 rfl),z a ha rfl k hk hlk (now (rsS s ks) k a) (by rw [hr.cand]; exact List.mem_singleton.2 rfl)]
end
end Go.Proofs
namespace Go.Proofs
open Go.VG
section
variable {C:MC} {K K' a i k:Nat} {s t u y:ArrS} {lv:LV} {m m' x:MirS} {w v:UInt64} {o:OwnS} {ex p:Nat→Prop} {T:List Sec}
theorem UP.fuse (h:UP C K lv s o m ex) {n:Nat} : UP C K lv { s with fuse := n } o m ex :=
  ⟨h.x,h.oi.arr (fun _=>rfl),⟨h.di.ok.fuse,h.di.tl,h.di.ex,h.di.miss,h.di.lgl,h.di.cnd,h.di.head,h.di.c⟩,h.mi.arr (fun _=>rfl) (fun _ _=>⟨rfl,rfl⟩),h.kn,h.sm,h.dn⟩
theorem UP.dnn (h:UP C K lv s o m ex):DN C K lv s o := ⟨h.oi,h.di,h.sm⟩
theorem z1c (hok:ArrOk C.ns K s) (hk:k < C.ns.length):smR s k=0∧ArrOk C.ns K (smS s k true)∧(∀ e,miss (smS s k true) e=if e=k then true else miss s e)∧(∀ e b,now (smS s k true) e b=now s e b)∧(∀ e b,cand (smS s k true) e b=cand s e b)∧(smS s k true).down=s.down∧(smS s k true).fuse=s.fuse := by
  have hkl:k < s.drv.length := hok.disk hk
  have hin:inR s (k:Int) := ⟨by omega,by omega⟩
  have hsz:∀ e,(s.drv.set k { s.drv.getD k d0 with miss := true }).getD e d0=if e=k then { s.drv.getD k d0 with miss := true } else s.drv.getD e d0 := fun e=>zjj hkl
  have hnow:∀ e,nowL (smS s k true) e=nowL s e := fun e=>by
    rw [zk0 hin]; unfold nowL
    show ((s.drv.set k { s.drv.getD k d0 with miss := true }).getD e d0).now=_
    rw [hsz]; split
    · rename_i h; rw [h]
    · rfl
  have hdur:∀ e,durL (smS s k true) e=durL s e := fun e=>by
    rw [zk0 hin]; unfold durL
    show ((s.drv.set k { s.drv.getD k d0 with miss := true }).getD e d0).dur=_
    rw [hsz]; split
    · rename_i h; rw [h]
    · rfl
  have hlog:(smS s k true).log=s.log := by rw [zk0 hin]
  have hlen:(smS s k true).drv.length=s.drv.length := by rw [zk0 hin]; simp
  have hsize:∀ e,(smS s k true).size e=s.size e := fun e=>by rw [zf0,zf0,hnow]
  refine ⟨if_pos hin,⟨⟨by rw [hlen]; exact hok.sz.cnt,fun d hd=>by rw [hsize]; exact hok.sz.size d hd,by rw [zk0 hin]; exact hok.sz.wr⟩,by rw [zk0 hin]; exact hok.wr,⟨fun d=>by rw [hnow,hdur]; exact hok.coh.len d,fun d b hb => ?_,fun r hr => ?_⟩,by rw [zk0 hin]; exact hok.bad⟩,fun e => ?_,fun e b=>by unfold now; rw [hnow],fun e b=>by show dur _ _ _::pendR _ _ _=dur _ _ _::pendR _ _ _; unfold dur; rw [hdur,hlog],by rw [zk0 hin],by rw [zk0 hin]⟩
  · rw [hsize] at hb
    have := hok.coh.last d b hb
    show lastD (dur _ _ _) (pendR _ _ _)=now _ _ _
    unfold dur now; rw [hdur,hnow,hlog]; exact this
  · rw [hlog] at hr
    rw [hlen,hsize]; exact hok.coh.log r hr
  · unfold miss
    rw [zk0 hin]
    show ((s.drv.set k { s.drv.getD k d0 with miss := true }).getD e d0).miss=_
    rw [hsz]; split <;> rfl
def zm6 (lv:LV) (k:Nat) (l:List Int):LV := ⟨fun i=>lv i && !decide (i=k),l,lv.cp,fun e=>if e=k then true else lv.ms e⟩
theorem without_t {i:Nat} {l:List Int} : (zm6 lv k l) i=true↔lv i=true∧i≠k := by unfold zm6; simp
theorem without_f {i:Nat} {l:List Int} : (zm6 lv k l) i=false↔lv i=false∨i=k := by
  unfold zm6
  show (lv i && !decide (i=k))=false↔_
  cases lv i <;> simp
theorem olose (h:UP C K lv s o m (fun _=>False)) (hk:k≤C.L) (hleft:∃ j,j < C.L∧lv j=true∧j≠k) (hlgk:k=C.L→C.lg=true) (hl10:lv.lost.length≤8) :
    ∃ l' o' s',ze4 o (k:Int) (k:Int) s=some (true,o',s')∧UP C K (zm6 lv k l') s' o' m (fun _=>False)∧o'.T=o.T∧l'.length≤lv.lost.length + 1∧s'.fuse=s.fuse∧(∀ e b,now s' e b=now s e b) := by
  obtain ⟨f1,f2,f3,f4,f5,f6,f7⟩ := z1c h.di.ok (k:=k) (by rw [MC.len]; omega)
  obtain ⟨l',l1,l2,l3⟩ := zxd (l:=o.Lost) (n:=(k:Int)) (by omega) (fun z hz=>by obtain ⟨i, -,rfl, -⟩ := h.oi.lr z hz; omega) (by rw [h.oi.ll.1]; omega)
  rw [h.oi.ll.1] at l2
  unfold ze4
  rw [l1]; simp only [Option.bind_some]
  rw [f1,decide_eq_true rfl]
  have hset:∀ r,SetB C s r→SetB C (smS s k true) r := fun r hr c hc=>hr c (by rw [f5] at hc; exact hc)
  have hone:∀ r,One C s lv r→One C (smS s k true) (zm6 lv k l') r := fun r ⟨f,hf⟩=>⟨f,fun b hb hbr j hj hlj c hc=>hf b hb hbr j hj (without_t.1 hlj).1 c (by rw [f5] at hc; exact hc)⟩
  have hli:∀ g,LI C s g→LI C (smS s k true) g := fun g hg=>hg.arr (fun c hc=>by rw [f5] at hc; exact hc) (fun c hc=>by rw [f5] at hc; exact hc) (f4 _ _)
  obtain ⟨j0,hj0,hl0,hne0⟩ := hleft
  refine ⟨l',_,_,rfl,⟨h.x,⟨h.oi.o1,h.oi.o2,h.oi.o3,h.oi.o4,fun z hz => ?_,h.oi.sl,fun i hi hl => ?_,fun i hi hm => ?_,fun z hz => ?_,?_,h.oi.nc,fun e=>by rw [f3,h.oi.mm]; rfl⟩,⟨f2,h.di.tl,⟨j0,hj0,without_t.2 ⟨hl0,hne0⟩⟩,fun i hi hl => ?_,fun hl=>h.di.lgl (without_t.1 hl).1,fun b hb j hj hl c hc => ?_,fun hl c hc => ?_,fun hl r hr => ?_⟩,⟨h.mi.len,fun i hi => ?_,h.mi.size,h.mi.region,h.mi.hasLog,h.mi.dl,?_,fun hl r hr hd=>hset r (h.mi.d (without_t.1 hl).1 r hr hd)⟩,fun b hb hx => ?_,h.sm,by rw [f6]; exact h.dn⟩,rfl,l2,f7,f4⟩
  · obtain ⟨i,h1,h2,h3⟩ := h.oi.st z hz
    exact ⟨i,h1,h2,without_f.2 (.inl h3)⟩
  · rw [f3]
    rcases without_f.1 hl with z | z
    · rcases h.oi.nl i hi z with q | q | q
      · exact .inl q
      · refine .inr (.inl ?_); split
        · rfl
        · exact q
      · exact .inr (.inr q)
    · rw [if_pos z]; exact .inr (.inl rfl)
  · rw [f3] at hm
    split at hm
    · rename_i e; exact (l3 _).2 (.inr (by omega))
    · exact (l3 _).2 (.inl (h.oi.lo i hi hm))
  · rcases (l3 z).1 hz with q | q
    · obtain ⟨i,h1,h2,h3⟩ := h.oi.lr z q
      exact ⟨i,h1,h2,without_f.2 (.inl h3)⟩
    · exact ⟨k,hk,q,without_f.2 (.inr rfl)⟩
  · exact ⟨rfl,by show l'.length≤10; omega⟩
  · obtain ⟨z1,z2⟩ := without_t.1 hl
    rw [f3,if_neg z2]; exact h.di.miss i hi z1
  · rw [f5] at hc; exact h.di.cnd b hb j hj (without_t.1 hl).1 c hc
  · rw [f5] at hc; exact h.di.head (without_t.1 hl).1 c hc
  · rcases h.di.c (without_t.1 hl).1 r hr with z | z
    · exact .inl (hset r z)
    · exact .inr (hone r z)
  · obtain ⟨g1,g2,g3⟩ := h.mi.leg i hi
    refine ⟨g1,g2,?_⟩
    rw [f3]
    by_cases e:i=k
    · rw [if_pos e]
      refine .inr ⟨without_f.2 (.inr e),?_⟩
      rcases g3 with ⟨-,z, -⟩ | ⟨-,z | ⟨-,z⟩⟩
      · exact .inr ⟨rfl,.inl z⟩
      · exact .inl z
      · exact .inr ⟨rfl,z⟩
    · rw [if_neg e]
      rcases g3 with ⟨z1,z2⟩ | ⟨z1,z2⟩
      · exact .inl ⟨without_t.2 ⟨z1,e⟩,z2⟩
      · exact .inr ⟨without_f.2 (.inl z1),z2⟩
  · rw [f3]
    rcases h.mi.log with ⟨z1,z2,z3,g,z4,z5⟩ | ⟨z1,z2⟩
    · by_cases e:C.L=k
      · rw [if_pos e]
        exact .inr ⟨without_f.2 (.inr e),.inr ⟨hlgk e.symm,rfl,.inl z2,g,z4,z5.lok⟩⟩
      · rw [if_neg e]
        exact .inl ⟨without_t.2 ⟨z1,e⟩,z2,z3,g,z4,hli g z5⟩
    · refine .inr ⟨without_f.2 (.inl z1),?_⟩
      rcases z2 with z2 | ⟨z2,z3,z4⟩
      · exact .inl z2
      · refine .inr ⟨z2,?_,z4⟩
        split
        · rfl
        · exact z3
  · obtain ⟨k1,k2⟩ := h.kn b hb hx
    exact ⟨k1,fun j hj hl=>by rw [f4]; exact k2 j hj (without_t.1 hl).1⟩
theorem ostep (h:UP C K lv s o m (fun _=>False)) (hnf:NF m) (hK:K≤35000) (S:volumegroupmake_Step) :
    ∃ o' m' s',ze5 o S s=some (true,o',s')∧UP C (K + 1200) lv s' o' m' (fun _=>False)∧NF m' ∧ (m.copied=0→m'.copied=0) := by
  have hs := C.hs
  obtain ⟨a,ha1,ha,hlo,hhi⟩ := at_ok S.At (n:=C.sz) (by omega) (by omega)
  unfold ze5
  rw [h.di.tl,grd_t (decide_eq_true (by omega)),grd_t (zdo (by omega)),grd_t (decide_eq_true (by omega)),ha1]
  simp only [lt]
  have fin:∀ {e:Int} {o1:OwnS} {s1:ArrS},(e≠5∧(∃ m',UP C (K + 80) lv s1 o1 m' (fun _=>False)∧NF m' ∧ m'.copied=m.copied)∨e=5∧DN C (K + 80) lv s1 o1) →
      ∃ o' m' s',(Option.bind (some (e,true,o1,s1)) fun a16 =>
        if (¬ a16.2.1=true) then
          some (false,a16.2.2.1,a16.2.2.2)
        else
          if (a16.1≠(5:Int)) then
            some (true,a16.2.2.1,a16.2.2.2)
          else
            Option.bind (zc0 a16.2.2.1 S.Keep a16.2.2.2) fun r28 =>
            if r28.1=true then
              Option.bind (zfi r28.2.1 r28.2.2) fun r30 =>
              some (r30.1,r30.2.1,r30.2.2)
            else
              some (false,r28.2.1,r28.2.2))=some (true,o',s')∧UP C (K + 1200) lv s' o' m' (fun _=>False)∧NF m' ∧ (m.copied=0→m'.copied=0) := by
    intro e o1 s1 hc
    simp only [Option.bind_some]
    rw [if_neg (by simp)]
    rcases hc with ⟨h5,m',h1,h2,h3⟩ | ⟨rfl,h1⟩
    · rw [if_pos (show ((e,true,o1,s1):Int × Bool × OwnS × ArrS).1≠5 from h5)]
      exact ⟨o1,m',s1,rfl,h1.mono (by omega),h2,fun z=>h3.trans z⟩
    · rw [if_neg (by simp)]
      obtain ⟨o2,m2,s2,p1,p2,p3,p4⟩ := z1b h1 (kp:=S.Keep) (by omega)
      rw [p1]; simp only [Option.bind_some]
      rw [if_pos trivial]
      unfold zfi
      obtain ⟨o3,m3,s3,q1,q2,q3,q4⟩ := z07 p2 p3 (by omega)
      rw [q1]; simp only [Option.bind_some]
      exact ⟨o3,m3,s3,rfl,q2.up.mono (by omega),q3,fun _=>q4.trans p4⟩
  by_cases k0:S.Kind=0
  · rw [if_pos k0]
    obtain ⟨e,o1,s1,w1, -,w2⟩ := owrite (v:=S.Value) h hnf ha (by omega)
    rw [w1]; simp only [Option.bind_some]
    refine fin ?_
    rcases w2 with ⟨rfl, -,m',z1,z2, -,z4⟩ | ⟨rfl, -,z⟩
    · exact .inl ⟨by decide,m',z1,z2,z4⟩
    · exact .inr ⟨rfl,z⟩
  · rw [if_neg k0]
    by_cases k1:S.Kind=1
    · rw [if_pos k1]
      obtain ⟨o1,m1,w1,w2,w3, -, -,w6⟩ := oread (q:=false) h hnf ha (by omega)
      rw [w1]; simp only [Option.bind_some]
      exact fin (e:=0) (.inl ⟨by decide,m1,w2.mono (by omega),w3,w6⟩)
    · rw [if_neg k1]
      by_cases k2:S.Kind=2
      · rw [if_pos k2]
        obtain ⟨e,o1,s1,w1, -,w2⟩ := oflush (p:=fun _=>False) h hnf (by omega)
        rw [w1]; simp only [Option.bind_some]
        refine fin ?_
        rcases w2 with ⟨rfl, -,⟨m',z1,z2, -,z4⟩, -⟩ | ⟨rfl, -,z⟩
        · exact .inl ⟨by decide,m',z1,z2,z4⟩
        · exact .inr ⟨rfl,z⟩
      · rw [if_neg k2]
        by_cases k3:S.Kind=3
        · rw [if_pos k3]
          exact fin (.inr ⟨rfl,h.dnn.mono (by omega)⟩)
        · rw [if_neg k3]
          by_cases k4:S.Kind=4
          · rw [if_pos k4,grd_t (zdo (by omega)),grd_t (zdo (by omega))]
            exact fin (e:=0) (.inl ⟨by decide,m,(h.fuse).mono (by omega),hnf,rfl⟩)
          · rw [if_neg k4]
            exact fin (e:=0) (.inl ⟨by decide,m,h.mono (by omega),hnf,rfl⟩)
theorem zxh {l:List volumegroupmake_Step} (hl:l.length≤24) {lose:Int} {lv0:LV} (hk:k≤C.L) (hlgk:k=C.L→C.lg=true) (hlost:lv0.lost.length≤8) (hleft:0≤lose → ∃ j,j < C.L∧lv0 j=true∧j≠k):∀ (N i:Nat) (lv:LV) (o:OwnS) (m:MirS) (s:ArrS),l.length - i < N→i≤l.length→UP C (1000 + 1200 * i) lv s o m (fun _=>False)→NF m→((i:Int)≤lose→lv=lv0) →
    ∃ lv' o' m' s',zdu l lose (k:Int) (k:Int) N o s i=some (.inl (o',s'))∧UP C 30000 lv' s' o' m' (fun _=>False)∧NF m' ∧ (lose < 0→lv' = lv)
  | 0,_,_,_,_,_,h,_,_,_,_=>absurd h (by omega)
  | N + 1,i,lv,o,m,s,h,hi,hu,hnf,hlo=>by
    have hrec := fun lv o m s=>zxh hl (lose:=lose) hk hlgk hlost hleft N (i + 1) lv o m s
    have hun:zdu l lose (k:Int) (k:Int) (N + 1) o s i=ze0 l lose (k:Int) (k:Int) (zdu l lose (k:Int) (k:Int) N) o s i := rfl
    rw [hun]
    unfold ze0
    by_cases hlt:i < l.length
    · rw [if_pos (by omega)]
      by_cases hlz:(i:Int)=lose
      · obtain rfl := hlo (by omega)
        obtain ⟨l',o1,s1,e1,e2,e3, -⟩ := olose hu hk (hleft (by omega)) hlgk hlost
        rw [if_pos hlz,e1]; simp only [Option.bind_some]
        rw [if_neg (by simp)]
        obtain ⟨o2,m2,s2,g1,g2,g3, -⟩ := ostep e2 hnf (by omega) (l.getD i ⟨0,0,0,0⟩)
        rw [g1]; simp only [Option.bind_some]
        rw [if_neg (by simp)]
        obtain ⟨lv',o3,m3,s3,q1,q2,q3,q4⟩ := hrec (zm6 lv k l') o2 m2 s2 (by omega) (by omega) (g2.mono (by omega)) g3 (fun z=>by omega)
        exact ⟨lv',o3,m3,s3,q1,q2,q3,fun z=>by omega⟩
      · rw [if_neg hlz]
        obtain ⟨o2,m2,s2,g1,g2,g3, -⟩ := ostep hu hnf (by omega) (l.getD i ⟨0,0,0,0⟩)
        rw [g1]; simp only [Option.bind_some]
        rw [if_neg (by simp)]
        obtain ⟨lv',o3,m3,s3,q1,q2,q3,q4⟩ := hrec lv o2 m2 s2 (by omega) (by omega) (g2.mono (by omega)) g3 (fun z=>hlo (by omega))
        exact ⟨lv',o3,m3,s3,q1,q2,q3,q4⟩
    · rw [if_neg (by omega)]
      exact ⟨lv,o,m,s,rfl,hu.mono (by omega),hnf,fun _=>rfl⟩
theorem oplay {l:List volumegroupmake_Step} (hl:l.length≤24) {lose:Int} {lv0:LV} (hk:k≤C.L) (hlgk:k=C.L→C.lg=true) (hlost:lv0.lost.length≤8) (hleft:0≤lose → ∃ j,j < C.L∧lv0 j=true∧j≠k) {o1:OwnS}
    (hb:zdg o s=some (true,o1)) (hu:UP C 1000 lv0 s o1 m (fun _=>False)) (hnf:NF m) :
    ∃ lv' o' m' s',zga o l lose (k:Int) (k:Int) s=some (true,o',s')∧UP C 40000 lv' s' o' m' (fun _=>False)∧NF m' ∧ s'.fuse=0∧(lose < 0→lv' = lv0)∧m'.copied=0 := by
  have hF := zbp
  have hs := C.hs
  unfold zga
  rw [hb]; simp only [Option.bind_some]
  rw [if_neg (by rw [hu.di.tl]; rintro (z | z); exact z trivial; omega)]
  obtain ⟨lv1,o2,m2,s2,p1,p2,p3,p4⟩ := zxh hl hk hlgk hlost hleft FUEL 0 lv0 o1 m s (by omega) (by omega) hu hnf (fun _=>rfl)
  rw [p1,zd6,grd_t (zdo (by omega))]
  have p5 := p2.fuse (n:=((0:Int)).toNat)
  rw [if_neg (by rw [p5.dn]; decide)]
  obtain ⟨o3,m3,q1,q2,q3, -⟩ := z08 (q:=false) p5 p3 (by omega)
  rw [q1]; simp only [Option.bind_some]
  rw [if_pos trivial]
  obtain ⟨o4,m4,s4,r1,r2,r3,r4⟩ := z1b q2.dnn (kp:=0) (by omega)
  rw [r1]; simp only [Option.bind_some]
  rw [if_pos trivial]
  obtain ⟨o5,m5,s5,t1,t2,t3,t4⟩ := z07 r2 r3 (by omega)
  rw [t1]; simp only [Option.bind_some]
  rw [if_pos trivial]
  obtain ⟨o6,m6,u1,u2,u3, -, -,u6⟩ := z08 (q:=true) t2.up t3 (by omega)
  rw [u1]; simp only [Option.bind_some]
  exact ⟨lv1,o6,m6,s5,rfl,u2.mono (by omega),u3,t2.fz,p4,u6.trans (t4.trans r4)⟩
end
end Go.Proofs
namespace Go.Proofs
open Go.VG
def zgb (n:Nat) (seed:UInt64):List UInt64 := (List.range n).map fun j=>seed + zh2 ((j:Nat):Int) * (11400714819323198485:UInt64)
@[simp] theorem zlv {n:Nat} {seed:UInt64} : (zgb n seed).length=n := by simp [zgb]
theorem zxi {n:Nat} {seed:UInt64} (hn:n≤1000000):∀ (N i:Nat) (acc:List UInt64),n - i < N→i≤n→acc=zgb i seed →
    zgx (n:Int) seed N acc i=some (zgb n seed)
  | 0,_,_,h,_,_=>absurd h (by omega)
  | N + 1,i,acc,h,hi,ha=>by
    show zf7 _ _ _ _ _=_
    unfold zf7
    subst ha
    by_cases hlt:i < n
    · rw [if_pos (by omega),grd_t (zd5 (by simp; omega)),grd_t (zdy (by omega))]
      refine zxi hn N (i + 1) _ (by omega) (by omega) ?_
      simp [zgb,List.range_succ]
    · rw [if_neg (by omega)]
      have:i=n := by omega
      rw [this]
theorem zxj {n:Nat} {seed:UInt64} (hn:n≤1000000):zgt (n:Int) seed=some (zgb n seed) := by
  unfold zgt
  have hF := zbp
  generalize FUEL=N at hF ⊢
  rw [zxi hn N 0 [] (by omega) (by omega) (by simp [zgb])]; rfl
end Go.Proofs
namespace Go.Proofs
open Go.VG
theorem zui:zgf=some true := by kernel_rfl
theorem u8mod {n k:UInt8} (hk:0 < k.toNat):(n % k).toNat < k.toNat := by rw [UInt8.toNat_mod]; exact Nat.mod_lt _ hk
def CM (n:UInt8):MC where
  L := 2 + (n % 2).toNat
  sz := 1 + ((n / 2) % 12).toNat
  rg := 1 + ((n / 24) % 4).toNat
  lg := decide (((128:UInt8).toNat:Int)≤(n.toNat:Int))
  hL := by have := @u8mod n 2 (by decide); have e:(2:UInt8).toNat=2 := rfl; omega
  hs := by have := @u8mod (n / 2) 12 (by decide); have e:(12:UInt8).toNat=12 := rfl; omega
  hr := by have := @u8mod (n / 24) 4 (by decide); have e:(4:UInt8).toNat=4 := rfl; omega
structure St0 (C:MC) (ws:List UInt64) (s:ArrS):Prop where
  ok:ArrOk C.ns 10 s
  dn:s.down=false
  fuse:s.fuse=0
  miss:∀ e,miss s e=false
  wl:ws.length=C.sz
  now:∀ i a,i < C.L→a < C.sz→now s i a=ws.getD a 0
  cand:∀ i a,i≤C.L→a < C.ns.getD i 0→cand s i a=[Go.Proofs.now s i a]
  head:Go.Proofs.now s C.L 0=headL C.R
  bits:Go.Proofs.now s C.L 1=0
def imsM (C:MC) (ws:List UInt64):List (List UInt64) := List.replicate C.L ws ++ [List.replicate 3 0]
section
variable {C:MC} {ws:List UInt64}
theorem zvh (hw:ws.length=C.sz):lensN (imsM C ws)=C.ns := by
  unfold lensN imsM MC.ns
  rw [List.map_append,List.map_replicate,hw]; rfl
theorem z2o {i:Nat} (h:i < C.L):(imsM C ws).getD i []=ws := by
  unfold imsM
  simp only [List.getD,List.getElem?_append,List.length_replicate,h,if_true,List.getElem?_replicate]; rfl
theorem now_mkS {ims:List (List UInt64)} {i a:Nat} : now (mkS ims) i a=(ims.getD i []).getD a 0∧cand (mkS ims) i a=[(ims.getD i []).getD a 0] := by
  constructor
  · simp only [now,nowL,mkS,List.getD,List.getElem?_map]; cases ims[i]? <;> rfl
  · show dur (mkS ims) i a::pendR [] i a=_
    rw [zu6]
    congr 1
    simp only [dur,durL,mkS,List.getD,List.getElem?_map]; cases ims[i]? <;> rfl
theorem zxk {n:UInt8} (hC:C.L=2 + (n % 2).toNat):∀ (N i:Nat),C.L - i < N→i≤C.L→zdx n ws N (List.replicate i ws) i=some (List.replicate C.L ws)
  | 0,_,h,_=>absurd h (by omega)
  | N + 1,i,h,hi=>by
    have hu:zdx n ws (N + 1) (List.replicate i ws) i=zfz n ws (zdx n ws N) (List.replicate i ws) i := rfl
    have hL := C.hL
    rw [hu]
    unfold zfz
    rw [← hC]
    by_cases hlt:i < C.L
    · rw [if_pos (by omega),grd_t (zd5 (by simp; omega)),grd_t (zdy (by omega))]
      have e:List.replicate i ws ++ [ws]=List.replicate (i + 1) ws := by rw [List.replicate_succ']
      rw [e]
      exact zxk hC N (i + 1) (by omega) (by omega)
    · rw [if_neg (by omega)]
      have:i=C.L := by omega
      rw [this]
theorem start0 (hw:ws.length=C.sz):∃ t,zim (xL C.L 3) (C.R:Int) (mkS (imsM C ws))=some (0,t)∧St0 C ws t := by
  have hR := C.hR
  have hsz:InSz C.ns (mkS (imsM C ws)) := by rw [← zvh hw]; exact zwv
  have hok:ArrOk C.ns 0 (mkS (imsM C ws)) := ⟨hsz,Nat.le_refl _,z3q,rfl⟩
  have hgood:Good (mkS (imsM C ws)) := z2b
  obtain ⟨t,h1,h2⟩ := z0x (d:=C.L) (m:=3) logL MC.log (by decide) hok rfl (hgood.miss C.L) rfl (R:=C.R) ⟨hR.1,by omega⟩ (by rw [MC.nW1]; omega) (by decide)
  refine ⟨t,h1,⟨h2.ok.mono (by rw [MC.nW1]; omega),h2.dn,h2.fuse,fun e=>by rw [h2.miss]; exact hgood.miss e,hw,fun i a hi ha => ?_,fun i a hi ha => ?_,?_,?_⟩⟩
  · rw [(h2.other i a (by omega) (by rw [MC.len]; omega) (by rw [MC.leg hi]; exact ha)).1,now_mkS.1,z2o hi]
  · by_cases e:i=C.L
    · subst e
      exact h2.cand a (by rw [← MC.log (C:=C)]; exact ha)
    · have hi':i < C.L := by omega
      rw [MC.leg hi'] at ha
      obtain ⟨g1,g2⟩ := h2.other i a e (by rw [MC.len]; omega) (by rw [MC.leg hi']; exact ha)
      rw [g2,g1,now_mkS.1,now_mkS.2]
  · rw [h2.now 0 (by decide),if_pos rfl]
  · rw [h2.now 1 (by decide),if_neg (by decide),if_pos (by rw [MC.nW1]; decide)]
theorem z2p (n:UInt8):∃ a,zge n=some (some a,(CM n).L,(CM n).sz,(CM n).rg,(CM n).lg,zgb (CM n).sz 5)∧St0 (CM n) (zgb (CM n).sz 5) a := by
  have hL := (CM n).hL
  have hs := (CM n).hs
  have hr := (CM n).hr
  have hR := (CM n).hR
  have e1:2 + (n % 2).toNat=(CM n).L := rfl
  have e2:1 + ((n / 2) % 12).toNat=(CM n).sz := rfl
  have e3:1 + ((n / 24) % 4).toNat=(CM n).rg := rfl
  have e4:decide (((128:UInt8).toNat:Int)≤(n.toNat:Int))=(CM n).lg := rfl
  unfold zge
  rw [e1,e2,e3,e4,grd_t (zdy (by omega)),grd_t (zdy (by omega)),grd_t (zdy (by omega)),zxj (by omega)]; simp only [Option.bind_some]
  have hbl:zdx n (zgb (CM n).sz 5) FUEL [] 0=some (List.replicate (CM n).L (zgb (CM n).sz 5)) := by
    have hF := zbp
    exact zxk (C:=CM n) rfl FUEL 0 (by omega) (by omega)
  rw [hbl]; simp only [Option.bind_some]
  generalize hC:CM n=C at hL hs hr hR ⊢
  have him:List.replicate C.L (zgb C.sz 5) ++ [List.replicate 3 0]=imsM C (zgb C.sz 5) := rfl
  have hlen:(imsM C (zgb C.sz 5)).length=C.L + 1 := by simp [imsM]
  rw [grd_t (zd5 (by simp; omega)),him,z0p (by omega) (fun im hm=>by
    unfold imsM at hm
    rcases List.mem_append.1 hm with hm | hm
    · rw [(List.mem_replicate.1 hm).2,zlv]; omega
    · rw [List.mem_singleton.1 hm]; simp)]; simp only [Option.bind_some,Option.elim_some]
  have hsz:InSz C.ns (mkS (imsM C (zgb C.sz 5))) := by rw [← zvh (C:=C) (ws:=zgb C.sz 5) zlv]; exact zwv
  have hcnt:(mkS (imsM C (zgb C.sz 5))).drv.length=C.L + 1 := by rw [hsz.cnt]; exact MC.len
  have hsL:(mkS (imsM C (zgb C.sz 5))).size C.L=3 := by rw [hsz.size C.L logL,MC.log]
  rw [zxc (by omega) (fun i hi=>by
    rcases Nat.lt_or_ge i C.L with x | x
    · rw [hsz.size i (by rw [MC.len]; omega),MC.leg x]; omega
    · have:i=C.L := by omega
      subst this; rw [hsL]; omega)]; simp only [Option.bind_some,znl,hcnt]
  rw [grd_t (zdy (by omega)),if_neg (by simp),zvt]; simp only [Option.bind_some]
  have hx:(zjq (mkS (imsM C (zgb C.sz 5)))).getD C.L dv0=xL C.L 3 := by rw [zo9 (by omega),hsL]; rfl
  obtain ⟨t,t1,t2⟩ := start0 (C:=C) (ws:=zgb C.sz 5) zlv
  rw [hx,t1]; simp only [Option.bind_some]
  rw [if_neg (by simp)]
  exact ⟨t,rfl,t2⟩
def lvA (C:MC):LV := ⟨fun i=>decide (i < C.L) || (decide (i=C.L) && C.lg),[],fun _=>0,fun _=>false⟩
theorem zmd {i:Nat} (h:i < C.L):(lvA C) i=true := by show (decide (i < C.L) || _)=true; rw [decide_eq_true h]; rfl
theorem zpo:(lvA C) C.L=C.lg := by show (decide (C.L < C.L) || (decide (C.L=C.L) && C.lg))=C.lg; rw [decide_eq_false (Nat.lt_irrefl _),decide_eq_true rfl]; cases C.lg <;> rfl
def own0 (C:MC) (ws:List UInt64):OwnS := ⟨(C.L:Int),(C.sz:Int),(C.rg:Int),C.lg,none,trkT ws,[],[]⟩
theorem zrp {a:Nat} (h:a < ws.length):(trkT ws).getD a s0=mkSec (ws.getD a 0) := by
  unfold trkT
  simp only [List.getD,List.getElem?_map,List.getElem?_eq_getElem h]; rfl
theorem St0.di {s:ArrS} {lv:LV} (h:St0 C ws s) (hex:∃ i,i < C.L∧lv i=true) (hlg:lv C.L=true→C.lg=true):DI C 10 s (trkT ws) lv := by
  refine ⟨h.ok,by unfold trkT; simp [h.wl],hex,fun i _ _=>h.miss i,hlg,fun a ha i hi _ c hc => ?_,fun _ c hc => ?_,fun _ r _ => .inr ⟨fun b=>ws.getD b 0,fun b hb _ i hi _ c hc => ?_⟩⟩
  · rw [h.cand i a (by omega) (by rw [MC.leg hi]; exact ha),List.mem_singleton,h.now i a hi ha] at hc
    rw [zrp (by rw [h.wl]; exact ha),hc]; exact List.mem_singleton.2 rfl
  · rw [h.cand C.L 0 (Nat.le_refl _) (by rw [MC.log]; decide),List.mem_singleton,h.head] at hc
    exact hc
  · rw [h.cand i b (by omega) (by rw [MC.leg hi]; exact hb),List.mem_singleton,h.now i b hi hb] at hc
    exact hc
theorem St0.oi {s:ArrS} (h:St0 C ws s):OI C 10 (lvA C) s (own0 C ws) :=
  ⟨rfl,rfl,rfl,rfl,fun k hk=>(by cases hk),by simp [own0],fun i hi hl=>by
    rcases Nat.lt_or_ge i C.L with x | x
    · rw [zmd x] at hl; cases hl
    · have:i=C.L := by omega
      subst this
      rw [zpo] at hl
      exact .inr (.inr ⟨rfl,hl⟩),fun i _ hm=>(by rw [h.miss] at hm; cases hm),fun k hk=>(by cases hk),⟨rfl,by simp [lvA]⟩,fun _ _=>rfl,fun e=>h.miss e⟩
theorem z1d {l:List volumegroupmake_Step} : zhq l=some (decide (l.length≤24)) := by
  unfold zhq
  congr 1
  exact decide_eq_decide.2 (by omega)
end
end Go.Proofs
namespace Go.Proofs
open Go.VG
section
variable {C:MC} {K K' a i k:Nat} {s t u y:ArrS} {lv:LV} {m m' x:MirS} {w v:UInt64} {o:OwnS} {ex p:Nat→Prop} {T:List Sec}
theorem Ev.mono {q:Nat→Prop} (h:Ev C lv s t p) (hpq:∀ r,p r→q r):Ev C lv s t q := ⟨h.miss,h.dead,fun hl c hc r hr hb=>(h.bit hl c hc r hr hb).imp (hpq r) id⟩
end
end Go.Proofs
namespace Go.Proofs
open Go.VG
def drtyL (d:List Bool) (n:Nat):List Int := ((List.range n).filter fun i=>d.getD i false).map fun i=>((i:Nat):Int)
theorem ztu {d:List Bool} {n:Nat} : drtyL d (n + 1)=drtyL d n ++ if d.getD n false=true then [((n:Nat):Int)] else [] := by
  unfold drtyL
  rw [List.range_succ,List.filter_append,List.map_append]
  congr 1
  by_cases h:d.getD n false=true
  · rw [if_pos h,List.filter_cons_of_pos (by simpa using h)]; rfl
  · rw [if_neg h,List.filter_cons_of_neg (by simpa using h)]; rfl
theorem zsr {d:List Bool} {n:Nat} : (drtyL d n).length≤n := by
  unfold drtyL
  rw [List.length_map]
  exact Nat.le_trans (List.length_filter_le _ _) (by simp)
theorem zrc {d:List Bool} {n k:Nat} (hk:k < (drtyL d n).length):∃ r:Nat,r < n∧d.getD r false=true∧(drtyL d n).getD k 0=r := by
  have h1:(drtyL d n).getD k 0 ∈ drtyL d n := by
    simp only [List.getD,List.getElem?_eq_getElem hk,Option.getD_some]; exact List.getElem_mem hk
  unfold drtyL at h1
  obtain ⟨r,hr,e⟩ := List.mem_map.1 h1
  have h2 := List.mem_filter.1 hr
  exact ⟨r,List.mem_range.1 h2.1,h2.2,e.symm⟩
theorem zvi {m:MirS} (hd:m.dirty.length≤1000):∀ (N i:Nat),m.dirty.length - i < N→i≤m.dirty.length→zfd m N i (drtyL m.dirty i)=some (drtyL m.dirty m.dirty.length)
  | 0,_,h,_=>absurd h (by omega)
  | N + 1,i,h,hi=>by
    have hu:zfd m (N + 1) i (drtyL m.dirty i)=zg3 m (zfd m N) i (drtyL m.dirty i) := rfl
    rw [hu]
    unfold zg3
    by_cases hlt:i < m.dirty.length
    · have hrec := zvi hd N (i + 1) (by omega) (by omega)
      rw [ztu] at hrec
      have hle := @zsr m.dirty i
      rw [if_pos (by omega)]
      by_cases hb:m.dirty.getD i false=true
      · rw [if_pos hb] at hrec
        rw [if_pos hb,grd_t (zd5 (by omega)),hrec]
      · rw [if_neg hb,List.append_nil] at hrec
        rw [if_neg hb,hrec]
    · rw [if_neg (by omega)]
      have:i=m.dirty.length := by omega
      rw [this]
theorem zrd {m:MirS} {s:ArrS} (hd:m.dirty.length≤1000):zep m s=some (drtyL m.dirty m.dirty.length) := by
  unfold zep
  have hF := zbp
  have h := zvi hd FUEL 0 (by omega) (by omega)
  have e:drtyL m.dirty 0=[] := rfl
  rw [e] at h
  rw [h]; rfl
end Go.Proofs
namespace Go.Proofs
open Go.VG
structure Qt (C:MC) (K:Nat) (s:ArrS) (lv:LV) (t:ArrS):Prop where
  ok:ArrOk C.ns K t
  dn:t.down=false
  fz:t.fuse=0
  miss:∀ e,Go.Proofs.miss t e=Go.Proofs.miss s e
  now:∀ e b,e < C.L→b < C.sz→Go.Proofs.now t e b=Go.Proofs.now s e b
  sub:∀ j,j < C.L→lv j=true → ∀ b,b < C.sz → ∀ c ∈ cand t j b,c ∈ cand s j b
  log:∀ b,b < 3→Go.Proofs.now t C.L b=Go.Proofs.now s C.L b∧cand t C.L b=cand s C.L b
section
variable {C:MC} {K K' a i k:Nat} {s t u y:ArrS} {lv:LV} {m m' x:MirS} {w v:UInt64} {o:OwnS} {ex p:Nat→Prop} {T:List Sec}
theorem Qt.refl (hok:ArrOk C.ns K s) (hdn:s.down=false) (hf:s.fuse=0):Qt C K s lv s := ⟨hok,hdn,hf,fun _=>rfl,fun _ _ _ _=>rfl,fun _ _ _ _ _ _ h=>h,fun _ _=>⟨rfl,rfl⟩⟩
theorem Qt.trans (h:Qt C K s lv t) (h':Qt C K' t lv u):Qt C K' s lv u := ⟨h'.ok,h'.dn,h'.fz,fun e=>(h'.miss e).trans (h.miss e),fun e b he hb=>(h'.now e b he hb).trans (h.now e b he hb),fun j hj hl b hb c hc=>h.sub j hj hl b hb c (h'.sub j hj hl b hb c hc),fun b hb=>⟨(h'.log b hb).1.trans (h.log b hb).1,(h'.log b hb).2.trans (h.log b hb).2⟩⟩
theorem Qt.mono (h:Qt C K s lv t) (hK:K≤K'):Qt C K' s lv t := { h with ok := h.ok.mono hK }
theorem Qt.put (h:Qt C K s lv t) (hi:i < C.L) (ha:a < C.sz) (hw:w=Go.Proofs.now s i a) (h1:Wrote C.ns K t i a w u):Qt C (K + 1) s lv u := by
  have hn:∀ e b,e < C.L→b < C.sz→Go.Proofs.now u e b=Go.Proofs.now s e b := fun e b he hb=>by
    rw [h1.now]; split
    · rename_i z; obtain ⟨rfl,rfl⟩ := z; exact hw
    · exact h.now e b he hb
  refine ⟨h1.ok,h1.dn,by rw [h1.fuse,h.fz],fun e=>by rw [h1.miss,h.miss],hn,fun j hj hl b hb c hc => ?_,fun b hb => ?_⟩
  · rw [h1.cand] at hc
    split at hc
    · rename_i z; obtain ⟨rfl,rfl⟩ := z
      rcases List.mem_append.1 hc with hc | hc
      · exact h.sub _ hj hl _ hb c hc
      · rw [List.mem_singleton.1 hc,hw, ← h.now i a hi ha]
        exact h.sub _ hj hl _ hb _ (h.ok.now_cand (by rw [MC.len]; omega) (by rw [MC.leg hi]; exact ha))
    · exact h.sub j hj hl b hb c hc
  · rw [h1.now,h1.cand,if_neg (fun z=>by omega),if_neg (fun z=>by omega)]; exact h.log b hb
theorem Qt.fl (h:Qt C K s lv t) (hi:i < C.L) (h1:Flushed1 C.ns K t i u):Qt C K s lv u := by
  refine ⟨h1.ok,h1.dn,by rw [h1.fuse,h.fz],fun e=>by rw [h1.miss,h.miss],fun e b he hb=>by rw [h1.now]; exact h.now e b he hb,fun j hj hl b hb c hc => ?_,fun b hb => ?_⟩
  · rw [h1.cand j b (by rw [MC.len]; omega) (by rw [MC.leg hj]; exact hb)] at hc
    split at hc
    · rw [List.mem_singleton.1 hc]
      exact h.sub j hj hl b hb _ (h.ok.now_cand (by rw [MC.len]; omega) (by rw [MC.leg hj]; exact hb))
    · exact h.sub j hj hl b hb c hc
  · rw [h1.now,h1.cand C.L b logL (by rw [MC.log]; exact hb),if_neg (by omega)]; exact h.log b hb
def AG (C:MC) (lv:LV) (m:MirS):Prop := ∀ i,i < C.L→stM m i=0→lv i=true
def Val (C:MC) (lv:LV) (s:ArrS) (f:Nat→UInt64):Prop := ∀ a,a < C.sz → ∀ j,j < C.L→lv j=true→Go.Proofs.now s j a=f a
theorem Qt.mi (h:Qt C K s lv t) (hm:MI C s lv m):MI C t lv m := hm.arr h.miss h.log
theorem Qt.val {f:Nat→UInt64} (h:Qt C K s lv t) (hv:Val C lv s f):Val C lv t f := fun a ha j hj hl=>by rw [h.now j a hj ha]; exact hv a ha j hj hl
theorem rsync1 {f:Nat→UInt64} (h:MI C s lv m) (hnf:NF m) (hag:AG C lv m) (hv:Val C lv s f) (hok:ArrOk C.ns K s) (hdn:s.down=false) (hf:s.fuse=0) (hK:K + 8≤1000000) (ha:a < C.sz) {fr:Int} :
    ∃ t,zda m fr (a:Int) (f a) s=some (0,m,t)∧Qt C (K + 8) s lv t := by
  have hF := zbp
  have hL := C.hL
  obtain ⟨e,x',y',e1,e2⟩ := zjw (r:=zda m fr (a:Int) (f a) s) rfl (P:=fun x y=>x=m∧Qt C (K + m.legs.length) s lv y) (Q:=fun _ _=>False) (fun x y hp=>by rw [hp.1]; exact h.l6)
    (zix (L:=m.legs.length) (f:=zcy m fr (a:Int) (f a)) (ch:=fun i=>zir ((i:Nat):Int) fr) (act:=fun i x y=>zeh ((i:Nat):Int) x (a:Int) (f a) y) (fun _ _ _ _=>rfl)
      (c:=fun i=>decide (((i:Nat):Int)≠fr)) (fun i _=>rfl) (fun i x y=>x=m∧Qt C (K + i) s lv y) (fun _ _=>False) (fun i x y hp=>by rw [hp.1])
      (fun i x y hi hp hst _=>by
        obtain ⟨rfl,hq⟩ := hp
        rw [h.len] at hi
        have hun:∀ o,zeh ((i:Nat):Int) x (a:Int) (f a) y=Option.bind o (fun r8=>some (r8.1,r8.2))→zeh ((i:Nat):Int) x (a:Int) (f a) y=o := fun o ho=>by rw [ho]; cases o <;> rfl
        have hw:zeh ((i:Nat):Int) x (a:Int) (f a) y=(xL i C.sz).wr y (a:Int) (f a) := hun _ (by unfold zeh; rw [h.gI hi,Int.toNat_natCast,h.dev hi])
        have hl := hag i hi hst
        rw [hw,zoh hq.ok (by omega) hi ha]
        rcases hq.ok.wrA (v:=f a) (by omega) hq.dn (by rw [MC.len]; omega:i < C.ns.length) (by rw [MC.leg hi]; exact ha) (by rw [hq.miss]; exact (h.live hi hl).2) with ⟨-,w2,w3⟩ | ⟨w1, -⟩
        · rw [w2]; exact ⟨0,_,rfl,.inl ⟨rfl,rfl,hq.put hi ha (hv a ha i hi hl).symm w3⟩⟩
        · rw [hq.fz] at w1; cases w1)
      (fun i x y hi hp _=>⟨hp.1,hp.2.mono (by omega)⟩) FUEL 0 m s (by have := h.l6; omega) (by omega) ⟨rfl,Qt.refl hok hdn hf⟩)
  rw [e1]
  rcases e2 with ⟨rfl,e2,rfl,e3⟩ | ⟨rfl,e2,rfl,e3⟩ | ⟨-,e2⟩
  · exact ⟨y',rfl,e3.mono (by rw [h.len]; omega)⟩
  · exact absurd hnf e2
  · exact e2.elim
theorem zyx {l:List mlegS} (hl:l.length≤6):∀ (N i:Nat),l.length - i < N→i≤l.length → ∃ r,zby l s N i=some r
  | 0,_,h,_=>absurd h (by omega)
  | N + 1,i,h,hi=>by
    have hu:zby l s (N + 1) i=zco l s (zby l s N) i := rfl
    rw [hu]
    unfold zco zis
    by_cases hlt:i < l.length
    · rw [if_pos (by omega)]; simp only [Option.bind_some]
      split
      · exact ⟨_,rfl⟩
      · rw [grd_t (zdy (by omega))]
        exact zyx (l:=l) hl N (i + 1) (by omega) (by omega)
    · rw [if_neg (by omega)]; exact ⟨_,rfl⟩
theorem z1e (h:MI C s lv m) (hnf:NF m) (hag:AG C lv m) (hok:ArrOk C.ns K s) (hdn:s.down=false) (hf:s.fuse=0) (hK:K≤1000000) :
    ∃ t,zh7 m s=some (0,m,t)∧Qt C K s lv t := by
  have hF := zbp
  have hL := C.hL
  have hidx:∃ r,zc5 m.legs s=some r := by
    unfold zc5
    obtain ⟨r,hr⟩ := zyx (s:=s) (l:=m.legs) h.l6 FUEL 0 (by have := h.l6; omega) (by omega)
    rw [hr]
    cases r with
    | inl r=>exact ⟨_,rfl⟩
    | inr r=>exact ⟨_,rfl⟩
  obtain ⟨fr,hfr⟩ := hidx
  unfold zh7
  rw [hfr]; simp only [Option.bind_some]
  obtain ⟨e,x',y',e1,e2⟩ := zjw (r:=zd9 m fr s) rfl (P:=fun x y=>x=m∧Qt C K s lv y) (Q:=fun _ _=>False) (fun x y hp=>by rw [hp.1]; exact h.l6)
    (zix (L:=m.legs.length) (f:=zcz m fr) (ch:=fun i=>zit ((i:Nat):Int) fr) (act:=fun i x y=>zei ((i:Nat):Int) x y) (fun _ _ _ _=>rfl)
      (c:=fun i=>decide (((i:Nat):Int)≠fr)) (fun i _=>rfl) (fun i x y=>x=m∧Qt C K s lv y) (fun _ _=>False) (fun i x y hp=>by rw [hp.1])
      (fun i x y hi hp hst _=>by
        obtain ⟨rfl,hq⟩ := hp
        rw [h.len] at hi
        have hun:∀ o,zei ((i:Nat):Int) x y=Option.bind o (fun r8=>some (r8.1,r8.2))→zei ((i:Nat):Int) x y=o := fun o ho=>by rw [ho]; cases o <;> rfl
        have hw:zei ((i:Nat):Int) x y=(xL i C.sz).fl y := hun _ (by unfold zei; rw [h.gI hi,Int.toNat_natCast,h.dev hi])
        have hl := hag i hi hst
        obtain ⟨k1,k2⟩ := hq.ok.flA (d:=i) hq.dn (by rw [MC.len]; omega) (by rw [hq.miss]; exact (h.live hi hl).2)
        rw [hw,zq4 hq.ok hK hi,k1]
        exact ⟨0,_,rfl,.inl ⟨rfl,rfl,hq.fl hi k2⟩⟩)
      (fun i x y hi hp _=>hp) FUEL 0 m s (by have := h.l6; omega) (by omega) ⟨rfl,Qt.refl hok hdn hf⟩)
  rw [e1]; simp only [Option.bind_some]
  rcases e2 with ⟨rfl,e2,rfl,e3⟩ | ⟨rfl,e2,rfl,e3⟩ | ⟨-,e2⟩
  · exact ⟨y',rfl,e3⟩
  · exact absurd hnf e2
  · exact e2.elim
theorem ztv (h:MI C s lv m) (hag:AG C lv m) (hok:ArrOk C.ns K s) (hdn:s.down=false) (ha:a < C.sz) (hex:∃ j,j < C.L∧lv j=true):∃ f:Nat,f < C.L∧lv f=true∧zeq m (a:Int) s=some (now s f a,((f:Nat):Int),[],0,m) := by
  rcases zsm h hok hdn ha hex with z | ⟨k,k1,k2,k3, -⟩
  · exact z
  · have := (h.live k1 (hag k k1 k2)).2
    rw [this] at k3; cases k3
def cpM (m:MirS) (c:Int):MirS := { m with copied := c }
theorem MI.cp {c:Int} (h:MI C s lv m):MI C s lv (cpM m c) := ⟨h.len,h.leg,h.size,h.region,h.hasLog,h.dl,h.log,h.d⟩
theorem NF.cp {c:Int} (h:NF m):NF (cpM m c) := ⟨h.leg,h.log⟩
def endR (C:MC) (r:Nat):Nat := min ((r + 1) * C.rg) C.sz
theorem z1f (h:MI C s lv m) {r:Nat} (hr:r < C.R):zic m ((r:Nat):Int) s=some ((endR C r:Nat):Int) := by
  have hR := C.hR
  have hrg := C.hr
  have h1:(r + 1) * C.rg≤12 * 4 := Nat.mul_le_mul (by omega) (by omega)
  unfold zic
  have e1:((r:Nat):Int) + 1=((r + 1:Nat):Int) := by omega
  have e2:((r + 1:Nat):Int) * (C.rg:Int)=(((r + 1) * C.rg:Nat):Int) := by rw [Int.natCast_mul]
  rw [h.region,e1,grd_t (zdo (by omega)),e2]
  unfold endR
  generalize (r + 1) * C.rg=q at h1
  rw [grd_t (zdo (by omega)),h.size]
  congr 1
  omega
theorem zxl {f:Nat→UInt64} {r4:List Int} {x17 r:Nat} (hr4:r4.getD x17 0=((r:Nat):Int)) (hr:r < C.R) (hex:∃ j,j < C.L∧lv j=true):∀ (N:Nat) (K:Nat) (m:MirS) (s:ArrS) (n a c:Nat),endR C r - a < N→a≤endR C r→K + 8 * (endR C r - a)≤900000→n≤1000000→c + (endR C r - a)≤1000→MI C s lv m→NF m→AG C lv m→Val C lv s f→ArrOk C.ns K s→s.down=false→s.fuse=0→m.copied=(c:Int) →
    ∃ t,Qt C (K + 8 * (endR C r - a)) s lv t∧(endR C r - a≤n∧zed r4 x17 N m s ((n:Nat):Int) ((a:Nat):Int)=some (.inl (((n - (endR C r - a):Nat):Int),cpM m ((c + (endR C r - a):Nat):Int),t)) ∨
      n < endR C r - a∧zed r4 x17 N m s ((n:Nat):Int) ((a:Nat):Int)=some (.inr (.inl (cpM m ((c + n:Nat):Int),t))))
  | 0,_,_,_,_,_,_,h,_,_,_,_,_,_,_,_,_,_,_,_=>absurd h (by omega)
  | N + 1,K,m,s,n,a,c,h,hae,hK,hn,hc,hmi,hnf,hag,hv,hok,hdn,hf,hcp=>by
    have hs := C.hs
    have hle:endR C r≤C.sz := Nat.min_le_right _ _
    have hun:zed r4 x17 (N + 1) m s ((n:Nat):Int) ((a:Nat):Int)=zgq r4 x17 (zed r4 x17 N) m s ((n:Nat):Int) ((a:Nat):Int) := rfl
    rw [hun]
    unfold zgq
    rw [hr4,z1f hmi hr]; simp only [Option.bind_some]
    have hcpe:∀ {z:Nat},z=c→cpM m ((z:Nat):Int)=m := fun {z} e=>by unfold cpM; rw [e, ← hcp]
    by_cases hlt:a < endR C r
    · rw [if_pos (by omega)]
      by_cases hn0:n=0
      · subst hn0
        rw [if_pos (by omega)]
        refine ⟨s,(Qt.refl hok hdn hf).mono (by omega),.inr ⟨by omega,?_⟩⟩
        rw [hcpe (by omega)]
      · rw [if_neg (by omega),grd_t (zdo (by omega))]
        obtain ⟨fl,f1,f2,f3⟩ := ztv hmi hag hok hdn (by omega:a < C.sz) hex
        rw [f3]; simp only [Option.bind_some]
        rw [if_pos trivial,hv a (by omega) fl f1 f2]
        obtain ⟨t,t1,t2⟩ := rsync1 (fr:=((fl:Nat):Int)) hmi hnf hag hv hok hdn hf (by omega) (by omega:a < C.sz)
        rw [t1]; simp only [Option.bind_some]
        rw [if_neg (by simp),hcp,grd_t (zdo (by omega)),grd_t (zdo (by omega))]
        have e1:(c:Int) + 1=((c + 1:Nat):Int) := by omega
        have e2:(a:Int) + 1=((a + 1:Nat):Int) := by omega
        have e3:(n:Int) - 1=((n - 1:Nat):Int) := by omega
        rw [e1,e2,e3]
        have hm2:({ m with copied := ((c + 1:Nat):Int) } : MirS)=cpM m ((c + 1:Nat):Int) := rfl
        rw [hm2]
        obtain ⟨t',q1,q2⟩ := zxl (f:=f) hr4 hr hex N (K + 8) (cpM m ((c + 1:Nat):Int)) t (n - 1) (a + 1) (c + 1) (by omega) (by omega) (by omega) (by omega) (by omega) (t2.mi hmi).cp hnf.cp hag (t2.val hv) t2.ok t2.dn t2.fz rfl
        refine ⟨t',(t2.trans q1).mono (by omega),?_⟩
        rcases q2 with ⟨z1,z2⟩ | ⟨z1,z2⟩
        · refine .inl ⟨by omega,?_⟩
          rw [z2]
          have e4:n - 1 - (endR C r - (a + 1))=n - (endR C r - a) := by omega
          have e5:c + 1 + (endR C r - (a + 1))=c + (endR C r - a) := by omega
          rw [e4,e5]; rfl
        · refine .inr ⟨by omega,?_⟩
          rw [z2]
          have e5:c + 1 + (n - 1)=c + n := by omega
          rw [e5]; rfl
    · rw [if_neg (by omega)]
      refine ⟨s,(Qt.refl hok hdn hf).mono (by omega),.inl ⟨by omega,?_⟩⟩
      rw [hcpe (by omega)]
      have e4:n - (endR C r - a)=n := by omega
      rw [e4]
def lenR (C:MC) (r:Nat):Nat := endR C r - r * C.rg
def lsum (C:MC):List Int→Nat
  | []=>0
  | r::l=>lenR C r.toNat + lsum C l
def cpOk (C:MC):List Int→Nat→Prop
  | [],c=>c=0
  | r::_,c=>c < lenR C r.toNat
def mOf (m:MirS) (d:List Bool) (c:Int):MirS := { m with dirty := d,copied := c }
theorem zuj {r:Nat} : lenR C r≤4 := by
  have h1:(r + 1) * C.rg=r * C.rg + C.rg := by rw [Nat.add_mul]; omega
  have hr := C.hr
  unfold lenR endR
  generalize (r + 1) * C.rg=q at h1 ⊢
  generalize r * C.rg=q' at h1 ⊢
  omega
theorem zxm {r:Nat} (hr:r < C.R):r * C.rg < C.sz := by
  have hs := C.hs
  have h1:r≤(C.sz - 1) / C.rg := by unfold MC.R at hr; omega
  have h2 := Nat.div_mul_le_self (C.sz - 1) C.rg
  have h3 := Nat.mul_le_mul_right C.rg h1
  omega
theorem zss {r:Nat} (hr:r < C.R):0 < lenR C r := by
  have h1:(r + 1) * C.rg=r * C.rg + C.rg := by rw [Nat.add_mul]; omega
  have h2 := zxm hr
  have h3 := C.hr
  unfold lenR endR
  generalize (r + 1) * C.rg=q at h1 ⊢
  generalize r * C.rg=q' at h1 h2 ⊢
  omega
theorem zuk:∀ (l:List Int),lsum C l≤4 * l.length
  | []=>Nat.le_refl _
  | r::l=>by
    have h1 := zuk l
    have h2 := @zuj C r.toNat
    show lenR C r.toNat + lsum C l≤4 * (l.length + 1)
    omega
theorem zxn:∀ (l l':List Int),lsum C (l ++ l')=lsum C l + lsum C l'
  | [],l' => by show lsum C l' = 0 + lsum C l'; omega
  | r::l,l' => by
    have h1 := zxn l l'
    show lenR C r.toNat + lsum C (l ++ l')=lenR C r.toNat + lsum C l + lsum C l'
    omega
theorem zul {d:List Bool} : ∀ n:Nat,lsum C (drtyL d n)≤min (n * C.rg) C.sz
  | 0=>by show 0≤_; omega
  | n + 1=>by
    have h1 := zul (d:=d) n
    rw [ztu,zxn]
    have h2:lsum C (if d.getD n false=true then [((n:Nat):Int)] else [])≤lenR C n := by
      split
      · show lenR C n + 0≤_
        omega
      · show 0≤_
        omega
    have h3:(n + 1) * C.rg=n * C.rg + C.rg := by rw [Nat.add_mul]; omega
    unfold lenR endR at h2
    generalize (n + 1) * C.rg=q at h2 h3 ⊢
    generalize n * C.rg=q' at h1 h2 h3
    omega
theorem zvj {l:List Int} (hl:∀ k,k < l.length → ∃ r:Nat,r < C.R∧l.getD k 0=r):cpOk C l 0 := by
  cases l with
  | nil=>rfl
  | cons r l =>
    obtain ⟨r',h1,h2⟩ := hl 0 (by simp)
    have e:r=((r':Nat):Int) := h2
    subst e
    exact zss h1
theorem z2q {l:List Int} {c:Nat} (h:cpOk C l c) (h0:lsum C l - c=0):l=[]∧c=0 := by
  cases l with
  | nil=>exact ⟨rfl,h⟩
  | cons r l =>
    have h1:c < lenR C r.toNat := h
    have h2:lenR C r.toNat + lsum C l - c=0 := h0
    omega
theorem z3z {l:List Int} {c:Nat} (h:cpOk C l c):c≤lsum C l := by
  cases l with
  | nil=>have:c=0 := h; omega
  | cons r l =>
    have h1:c < lenR C r.toNat := h
    show c≤lenR C r.toNat + lsum C l
    omega
theorem dSet {d:List Bool} {i r:Nat} : (d.set r false).getD i false=if i=r then false else d.getD i false := by
  simp only [List.getD,List.getElem?_set]
  by_cases e:r=i
  · subst e
    rw [if_pos rfl,if_pos rfl]
    split <;> rfl
  · rw [if_neg e,if_neg (fun x=>e x.symm)]
theorem z1g {d:List Bool} {R r:Nat} {tl:List Int} (h:drtyL d R=((r:Nat):Int)::tl):drtyL (d.set r false) R=tl := by
  unfold drtyL at h ⊢
  have e1:(List.range R).filter (fun i=>(d.set r false).getD i false)=((List.range R).filter fun i=>d.getD i false).filter (fun i=>decide (i≠r)) := by
    rw [List.filter_filter]
    congr 1
    funext i
    rw [dSet]
    by_cases e:i=r
    · rw [if_pos e,decide_eq_false (fun x=>x e)]; rfl
    · rw [if_neg e,decide_eq_true e]; simp
  have hnd:((List.range R).filter fun i=>d.getD i false).Nodup := List.nodup_range.filter _
  rw [e1]
  generalize (List.range R).filter (fun i=>d.getD i false)=l at h hnd
  cases l with
  | nil=>cases h
  | cons x l =>
    have h1 := (List.cons.inj h).1
    have h2 := (List.cons.inj h).2
    have h9:((x:Nat):Int)=((r:Nat):Int) := h1
    have e:x=r := by omega
    subst e
    have h3:x ∉ l := (List.nodup_cons.1 hnd).1
    rw [List.filter_cons_of_neg (by simp),List.filter_eq_self.2 (fun a ha=>by have h8:a≠x := fun z=>h3 (z ▸ ha); simpa using h8)]
    exact h2
theorem MI.dc {d:List Bool} {c:Int} (h:MI C s lv m) (hl:d.length=m.dirty.length) (hd:∀ r,d.getD r false=true→m.dirty.getD r false=true):MI C s lv (mOf m d c) := ⟨h.len,h.leg,h.size,h.region,h.hasLog,hl.trans h.dl,h.log,fun h1 r hr h2=>h.d h1 r hr (hd r h2)⟩
theorem NF.dc {d:List Bool} {c:Int} (h:NF m):NF (mOf m d c) := ⟨h.leg,h.log⟩
theorem zvk {f:Nat→UInt64} {r4:List Int} (hr4:∀ k,k < r4.length → ∃ r:Nat,r < C.R∧r4.getD k 0=r) (h12:r4.length≤12) (hex:∃ j,j < C.L∧lv j=true):∀ (N k K:Nat) (m:MirS) (s:ArrS) (n c:Nat),r4.length - k < N→k≤r4.length→K + 8 * lsum C (r4.drop k)≤900000→n≤1000000→drtyL m.dirty C.R=r4.drop k→cpOk C (r4.drop k) c→m.copied=(c:Int)→MI C s lv m→NF m→AG C lv m→Val C lv s f→ArrOk C.ns K s→s.down=false→s.fuse=0 →
    ∃ d c' t,ze2 r4 N m s ((n:Nat):Int) k=some (.inl (mOf m d ((c':Nat):Int),t))∧Qt C (K + 8 * lsum C (r4.drop k)) s lv t∧d.length=m.dirty.length∧(∀ r,d.getD r false=true→m.dirty.getD r false=true)∧cpOk C (drtyL d C.R) c' ∧ lsum C (drtyL d C.R) - c' = lsum C (r4.drop k) - c - n
  | 0,_,_,_,_,_,_,h,_,_,_,_,_,_,_,_,_,_,_,_,_=>absurd h (by omega)
  | N + 1,k,K,m,s,n,c,h,hk,hK,hn,hd,hc,hcp,hmi,hnf,hag,hv,hok,hdn,hf=>by
    have hF := zbp
    have hs := C.hs
    have hCR := C.hR
    have hun:ze2 r4 (N + 1) m s ((n:Nat):Int) k=zgr r4 (ze2 r4 N) m s ((n:Nat):Int) k := rfl
    rw [hun]
    unfold zgr
    by_cases hlt:k < r4.length
    · rw [if_pos (by omega)]
      obtain ⟨r,hr,e⟩ := hr4 k hlt
      have e0:r4.drop k=((r:Nat):Int)::r4.drop (k + 1) := by
        rw [List.drop_eq_getElem_cons hlt]
        congr 1
        rw [← e]; simp [List.getD,hlt]
      have hlc:c < lenR C r := by
        have h1 := hc
        rw [e0] at h1
        exact h1
      have hls:lsum C (r4.drop k)=lenR C r + lsum C (r4.drop (k + 1)) := by rw [e0]; rfl
      have hrl := zxm hr
      have hend:endR C r=lenR C r + r * C.rg := by
        have := zss hr
        unfold lenR at this ⊢
        omega
      have hl4 := @zuj C r
      have e1:((r:Nat):Int) * (C.rg:Int)=((r * C.rg:Nat):Int) := by rw [Int.natCast_mul]
      rw [e,hmi.region,e1,hcp]
      have e2:((r * C.rg:Nat):Int) + (c:Int)=((r * C.rg + c:Nat):Int) := by rw [Int.natCast_add]
      rw [e2,grd_t (zdo (by omega)),grd_t (zdo (by omega))]
      obtain ⟨t,t1,t2⟩ := zxl (f:=f) e hr hex FUEL K m s n (r * C.rg + c) c (by omega) (by omega) (by omega) hn (by omega) hmi hnf hag hv hok hdn hf hcp
      have e3:endR C r - (r * C.rg + c)=lenR C r - c := by omega
      rw [e3] at t1 t2
      rcases t2 with ⟨z1,z2⟩ | ⟨z1,z2⟩
      · rw [z2,zd6]
        obtain ⟨u,u1,u2⟩ := z1e (m:=cpM m ((c + (lenR C r - c):Nat):Int)) (t1.mi hmi).cp hnf.cp hag t1.ok t1.dn t1.fz (by omega)
        rw [u1]; simp only [Option.bind_some]
        rw [if_neg (by simp)]
        have hdl:(cpM m ((c + (lenR C r - c):Nat):Int)).dirty=m.dirty := rfl
        rw [hdl,grd_t (decide_eq_true (by rw [hmi.dl]; omega)),grd_t (zdy (by omega)),Int.toNat_natCast]
        have hm2:({ cpM m ((c + (lenR C r - c):Nat):Int) with dirty := m.dirty.set r false,copied := (0:Int) } : MirS)=mOf m (m.dirty.set r false) ((0:Nat):Int) := rfl
        rw [hm2]
        have hd2:drtyL (m.dirty.set r false) C.R=r4.drop (k + 1) := z1g (hd.trans e0)
        have hsub:∀ i,(m.dirty.set r false).getD i false=true→m.dirty.getD i false=true := fun i hi=>by
          rw [dSet] at hi
          split at hi
          · cases hi
          · exact hi
        have h0:cpOk C (r4.drop (k + 1)) 0 := zvj (fun j hj=>by
          rw [List.length_drop] at hj
          obtain ⟨r',q1,q2⟩ := hr4 (k + 1 + j) (by omega)
          exact ⟨r',q1,by rw [← q2]; simp only [List.getD,List.getElem?_drop]⟩)
        have hq := t1.trans u2
        obtain ⟨d,c',v,v1,v2,v3,v4,v5,v6⟩ := zvk (f:=f) hr4 h12 hex N (k + 1) (K + 8 * (lenR C r - c)) (mOf m (m.dirty.set r false) ((0:Nat):Int)) u (n - (lenR C r - c)) 0 (by omega) (by omega) (by omega) (by omega) hd2 h0 rfl ((hq.mi hmi).dc (by simp) hsub) hnf.dc hag (hq.val hv) hq.ok hq.dn hq.fz
        refine ⟨d,c',v,?_,(hq.trans v2).mono (by omega),by rw [v3]; simp [mOf],fun i hi=>hsub i (v4 i hi),v5,by rw [v6]; omega⟩
        rw [v1]; rfl
      · rw [z2,zjv]
        refine ⟨m.dirty,c + n,t,rfl,t1.mono (by omega),rfl,fun _ h=>h,?_,by rw [hd]; omega⟩
        rw [hd,e0]
        show c + n < lenR C r
        omega
    · rw [if_neg (by omega)]
      have e0:r4.drop k=[] := List.drop_eq_nil_of_le (by omega)
      refine ⟨m.dirty,c,s,?_,(Qt.refl hok hdn hf).mono (by omega),rfl,fun _ h=>h,by rw [hd]; exact hc,?_⟩
      · rw [← hcp]; rfl
      · have h1:lsum C (r4.drop k)=0 := by rw [e0]; rfl
        rw [hd]; omega
theorem zyy (h:MI C s lv m) {l:List Int} (hl:∀ k,k < l.length → ∃ r:Nat,r < C.R∧l.getD k 0=r) (h12:l.length≤12):∀ (N k:Nat) (x:Int),l.length - k < N→k≤l.length → -1000≤x→x + (lsum C (l.drop k):Int)≤1000→zfr m s l N k x=some (x + (lsum C (l.drop k):Int))
  | 0,_,_,h,_,_,_=>absurd h (by omega)
  | N + 1,k,x,hN,hk,hx,hy=>by
    have hs := C.hs
    have hun:zfr m s l (N + 1) k x=zhi m s l (zfr m s l N) k x := rfl
    rw [hun]
    unfold zhi
    by_cases hlt:k < l.length
    · rw [if_pos (by omega)]
      obtain ⟨r,hr,e⟩ := hl k hlt
      have e0:l.drop k=((r:Nat):Int)::l.drop (k + 1) := by
        rw [List.drop_eq_getElem_cons hlt]
        congr 1
        rw [← e]; simp [List.getD,hlt]
      have hls:lsum C (l.drop k)=lenR C r + lsum C (l.drop (k + 1)) := by rw [e0]; rfl
      have hrl := zxm hr
      have hl4 := @zuj C r
      have hend:endR C r=lenR C r + r * C.rg := by
        have := zss hr
        unfold lenR at this ⊢
        omega
      have e1:((r:Nat):Int) * (C.rg:Int)=((r * C.rg:Nat):Int) := by rw [Int.natCast_mul]
      rw [e,h.region,e1,grd_t (zdo (by omega)),z1f h hr]; simp only [Option.bind_some]
      rw [hls] at hy
      rw [grd_t (zdo (by omega)),grd_t (zdo (by omega)),grd_t (zdy (by omega)),zyy h hl h12 N (k + 1) _ (by omega) (by omega) (by omega) (by omega),hls]
      congr 1
      omega
    · rw [if_neg (by omega)]
      have e0:l.drop k=[] := List.drop_eq_nil_of_le (by omega)
      rw [e0]
      show some x=some (x + 0)
      rw [Int.add_zero]
theorem z30 (h:MI C s lv m) {c:Nat} (hcp:m.copied=(c:Int)) (hc:cpOk C (drtyL m.dirty C.R) c):ziw m s=some (((lsum C (drtyL m.dirty C.R) - c:Nat):Int)) := by
  have hF := zbp
  have hR := C.hR
  have h1 := z3z hc
  have h2 := zuk (C:=C) (drtyL m.dirty C.R)
  have h3 := @zsr m.dirty C.R
  unfold ziw
  rw [hcp,grd_t (zdo (by omega)),zrd (by rw [h.dl]; omega),h.dl]; simp only [Option.bind_some]
  have h4 := zyy h (l:=drtyL m.dirty C.R) (fun k hk=>by obtain ⟨r,q1, -,q2⟩ := zrc hk; exact ⟨r,q1,q2⟩) (by omega) FUEL 0 (0 - (c:Int)) (by omega) (by omega) (by omega) (by rw [List.drop_zero]; omega)
  rw [List.drop_zero] at h4
  rw [h4]; simp only [Option.bind_some]
  congr 1
  omega
theorem z1h {f:Nat→UInt64} (hmi:MI C s lv m) (hnf:NF m) (hag:AG C lv m) (hv:Val C lv s f) (hok:ArrOk C.ns K s) (hdn:s.down=false) (hf:s.fuse=0) (hK:K≤800000) (hex:∃ j,j < C.L∧lv j=true) {n c:Nat} (hn:n≤1000000) (hcp:m.copied=(c:Int)) (hc:cpOk C (drtyL m.dirty C.R) c) :
    ∃ d c' t,zf5 m ((n:Nat):Int) s=some (((lsum C (drtyL m.dirty C.R) - c - n:Nat):Int),0,mOf m d ((c':Nat):Int),t)∧Qt C (K + 100) s lv t∧d.length=m.dirty.length∧(∀ r,d.getD r false=true→m.dirty.getD r false=true)∧cpOk C (drtyL d C.R) c' ∧ lsum C (drtyL d C.R) - c' = lsum C (drtyL m.dirty C.R) - c - n := by
  have hF := zbp
  have hR := C.hR
  have h2 := zuk (C:=C) (drtyL m.dirty C.R)
  have h3 := @zsr m.dirty C.R
  have h4 := zul (C:=C) (d:=m.dirty) C.R
  have hs := C.hs
  unfold zf5
  rw [if_neg (by omega),(zgg hmi.l6).1 hnf]; simp only [Option.bind_some]
  rw [if_neg (by simp),zrd (by rw [hmi.dl]; omega),hmi.dl]; simp only [Option.bind_some]
  obtain ⟨d,c',t,t1,t2,t3,t4,t5,t6⟩ := zvk (f:=f) (r4:=drtyL m.dirty C.R) (fun k hk=>by obtain ⟨r,q1, -,q2⟩ := zrc hk; exact ⟨r,q1,q2⟩) (by omega) hex FUEL 0 K m s n c (by omega) (by omega) (by rw [List.drop_zero]; omega) hn (by rw [List.drop_zero]) (by rw [List.drop_zero]; exact hc) hcp hmi hnf hag hv hok hdn hf
  rw [List.drop_zero] at t2 t6
  rw [t1,zd6,z30 (m:=mOf m d ((c':Nat):Int)) ((t2.mi hmi).dc t3 t4) rfl t5]; simp only [Option.bind_some]
  have e:lsum C (drtyL (mOf m d ((c':Nat):Int)).dirty C.R) - c' = lsum C (drtyL m.dirty C.R) - c - n := t6
  rw [e]
  exact ⟨d,c',t,rfl,t2.mono (by omega),t3.trans hmi.dl,t4,t5,t6⟩
theorem oall_w {q:Bool} (h:UP C K lv s o m (fun _=>False)) (hnf:NF m) (hK:K≤49000):∃ o' ,zbl o q s=some (true,o',s) := by
  have hF := zbp
  have hs := C.hs
  unfold zbl
  obtain ⟨o',m',h1, -⟩ := zrb (q:=q) FUEL 0 K o m (by omega) (by omega) (by omega) h hnf
  rw [h1,zd6]
  exact ⟨_,rfl⟩
end
end Go.Proofs
namespace Go.Proofs
open Go.VG
section
variable {C:MC} {K a i:Nat} {s t y:ArrS} {lv:LV} {m m' x:MirS} {w v:UInt64} {o:OwnS}
theorem AG.fd (h:AG C lv m) (hm:MI C s lv m) (hf:Fd s m m' 0):AG C lv m' := fun i hi hs=>by
  rcases (hf.leg i (by rw [hm.len]; exact hi)).2.2 with z | ⟨-, -,z⟩
  · exact h i hi (z.symm.trans hs)
  · rw [z] at hs; cases hs
theorem AG.nf (h:AG C lv m) (hm:MI C s lv m) (hnf:NF m) (hf:Fd s m m' 0):NF m' := by
  refine ⟨fun i hi hs => ?_,?_⟩
  · have hi':i < m.legs.length := by rw [← hf.len]; exact hi
    rcases (hf.leg i hi').2.2 with z | ⟨z1,z2, -⟩
    · exact hnf.leg i hi' (z.symm.trans hs)
    · have hl := h i (by rw [← hm.len]; exact hi') z1
      rw [(hm.live (by rw [← hm.len]; exact hi') hl).2] at z2; cases z2
  · have e := hf.oth
    intro hx
    exact hnf.log (by rw [e] at hx; exact hx)
end
end Go.Proofs
namespace Go.Proofs
open Go.VG
def fol (lv:LV) (k c:Nat):LV := ⟨lv.f,lv.lost,fun i=>if i=k then (c:Int) else 0,lv.ms⟩
section
variable {C:MC} {K K' a k c i:Nat} {s t u y:ArrS} {lv:LV} {m m' x:MirS} {w v:UInt64} {o:OwnS} {T:List Sec}
theorem z1i (h:DI C K s T lv):DI C K s T (fol lv k c) := ⟨h.ok,h.tl,h.ex,h.miss,h.lgl,h.cnd,h.head,h.c⟩
theorem zxo (h:DI C K s T (fol lv k c)):DI C K s T lv := ⟨h.ok,h.tl,h.ex,h.miss,h.lgl,h.cnd,h.head,h.c⟩
theorem mi_nf (h:MI C s lv m) (hms:∀ e,miss s e=false):NF m := by
  refine ⟨fun i hi hs => ?_,?_⟩
  · rcases (h.leg i (by rw [← h.len]; exact hi)).2.2 with ⟨-,z, -⟩ | ⟨-,z | ⟨z, -⟩⟩
    · rw [z] at hs; cases hs
    · rw [z] at hs; cases hs
    · rw [hms] at z; cases z
  · rcases h.log with ⟨-,z, -⟩ | ⟨-,⟨-,z⟩ | ⟨-,z, -⟩⟩
    · rintro ⟨-,q⟩; rw [z] at q; cases q
    · rintro ⟨-,q⟩; rw [z] at q; cases q
    · rw [hms] at z; cases z
theorem mi_ag (h:MI C s lv m) (hms:∀ e,miss s e=false):AG C lv m := fun i hi hs=>by
  rcases h.good hi hs with ⟨z, -⟩ | ⟨-,z⟩
  · exact z
  · rw [hms] at z; cases z
theorem zxp (h:MI C s lv m) (hms:∀ e,miss s e=false) (hi:i < C.L) (hl:lv i=false):stM m i=2∧(m.legs.getD i mleg_x0).copied=lv.cp i := by
  have h2:stM m i=2 := by
    rcases (h.leg i hi).2.2 with ⟨z, -⟩ | ⟨-,z | ⟨z, -⟩⟩
    · rw [hl] at z; cases z
    · exact z
    · rw [hms] at z; cases z
  rcases (h.leg i hi).2.1 with z | z
  · exact ⟨h2,z⟩
  · exact absurd h2 z
theorem z31 (h:MI C s lv m) (hms:∀ e,miss s e=false) (hok:ArrOk C.ns K s) (hdn:s.down=false) (hf:s.fuse=0) (hK:K + 8≤1000000) (ha:a < C.sz) :
    ∃ t,zcb m (a:Int) v s=some (0,m,t)∧Wd C K s lv a v C.L t := by
  have hF := zbp
  have hL := C.hL
  have hnf := mi_nf h hms
  obtain ⟨e,x',y',e1,e2⟩ := zjw (r:=zcb m (a:Int) v s) rfl (P:=fun x y=>x=m∧Wd C K s lv a v m.legs.length y) (Q:=fun _ y=>False) (fun x y hp=>by rw [hp.1]; exact h.l6)
    (zix (L:=m.legs.length) (f:=zdf m (a:Int) v) (ch:=fun i=>zjc ((i:Nat):Int)) (act:=fun i x y=>zcn ((i:Nat):Int) x (a:Int) v y) (fun _ _ _ _=>rfl)
      (c:=fun _=>true) (fun i _=>rfl) (fun i x y=>x=m∧Wd C K s lv a v i y) (fun _ y=>False) (fun i x y hp=>by rw [hp.1])
      (fun i x y hi hp hst _=>by
        obtain ⟨rfl,hq⟩ := hp
        rw [h.len] at hi
        have hun:∀ o,zcn ((i:Nat):Int) x (a:Int) v y=Option.bind o (fun r8=>some (r8.1,r8.2))→zcn ((i:Nat):Int) x (a:Int) v y=o := fun o ho=>by rw [ho]; cases o <;> rfl
        have hw:zcn ((i:Nat):Int) x (a:Int) v y=(xL i C.sz).wr y (a:Int) v := hun _ (by unfold zcn; rw [h.gI hi,Int.toNat_natCast,h.dev hi])
        rw [hw,zoh hq.ok (by omega) hi ha]
        rcases hq.ok.wrA (v:=v) (by omega) hq.dn (by rw [MC.len]; omega:i < C.ns.length) (by rw [MC.leg hi]; exact ha) (by rw [hq.miss]; exact hms i) with ⟨-,w2,w3⟩ | ⟨w1, -, -⟩
        · rw [w2]; exact ⟨0,_,rfl,.inl ⟨rfl,rfl,hq.put hi (mi_ag h hms i hi hst) w3⟩⟩
        · rw [hq.fz hf] at w1; cases w1)
      (fun i x y hi hp hc=>by
        obtain ⟨rfl,hq⟩ := hp
        rw [h.len] at hi
        rcases hc with hc | hc
        · refine ⟨rfl,hq.same (fun _ => ?_)⟩
          cases hl:lv i
          · rfl
          · exact absurd (h.live hi hl).1 hc
        · cases hc) FUEL 0 m s (by have := h.l6; omega) (by omega) ⟨rfl,Wd.start hok hdn⟩)
  rw [e1]
  rw [h.len] at e2
  rcases e2 with ⟨rfl, -,rfl,e4⟩ | ⟨-,e2,rfl, -⟩ | ⟨-,e2⟩
  · exact ⟨_,rfl,e4⟩
  · exact absurd hnf e2
  · exact e2.elim
theorem zre (h:MI C s (fol lv k c) m) (hlive:∀ i,i < C.L→i≠k→lv i=true) {y:ArrS} : ∀ (N i:Nat),C.L - i < N→i≤C.L→k < i→zca m (a:Int) w N m y i=some (.inl (m,y))
  | 0,_,h,_,_=>absurd h (by omega)
  | N + 1,i,hN,hi,hk=>by
    have hu:zca m (a:Int) w (N + 1) m y i=zdb m (a:Int) w (zca m (a:Int) w N) m y i := rfl
    rw [hu]
    unfold zdb
    by_cases hlt:i < C.L
    · have hl:i < m.legs.length := by rw [h.len]; exact hlt
      have h0:stM m i=0 := (h.live hlt (hlive i hlt (by omega))).1
      rw [if_pos (by omega),grd_t (decide_eq_true hl),grd_t (decide_eq_true (fun _=>hl)),if_neg (fun x=>by
        have h2:stM m i=2 := x.1
        rw [h0] at h2; cases h2)]
      exact zre h hlive N (i + 1) (by omega) (by omega) (by omega)
    · rw [if_neg (by rw [h.len]; omega)]
theorem zxq (h:MI C s (fol lv k c) m) (hms:∀ e,miss s e=false) (hk:k < C.L) (hlk:lv k=false) (hlive:∀ i,i < C.L→i≠k→lv i=true) (hok:ArrOk C.ns K y) (hdn:y.down=false) (hf:y.fuse=0) (hmk:miss y k=false) (hK:K + 8≤1000000) (ha:a < C.sz) :
    ∀ (N i:Nat),C.L - i < N→i≤k → ∃ t,zca m (a:Int) w N m y i=some (.inl (m,t))∧(c≤a∧t=y∨a < c∧Wrote C.ns K y k a w t)
  | 0,_,h,_=>absurd h (by omega)
  | N + 1,i,hN,hi=>by
    have hu:zca m (a:Int) w (N + 1) m y i=zdb m (a:Int) w (zca m (a:Int) w N) m y i := rfl
    rw [hu]
    unfold zdb
    have hlt:i < C.L := by omega
    have hl:i < m.legs.length := by rw [h.len]; exact hlt
    rw [if_pos (by omega),grd_t (decide_eq_true hl),grd_t (decide_eq_true (fun _=>hl))]
    by_cases hik:i=k
    · subst hik
      obtain ⟨g1,g2⟩ := zxp h hms hlt hlk
      have g3:(m.legs.getD i mleg_x0).copied=(c:Int) := g2.trans (if_pos rfl)
      by_cases hac:a < c
      · rw [if_pos ⟨g1,by rw [g3]; omega⟩,grd_t (decide_eq_true hl),h.dev hlt,zoh hok (by omega) hlt ha]; simp only [Option.bind_some]
        rcases hok.wrA (v:=w) (by omega) hdn (by rw [MC.len]; omega:i < C.ns.length) (by rw [MC.leg hlt]; exact ha) hmk with ⟨-,w2,w3⟩ | ⟨w1, -, -⟩
        · rw [w2,zlg (.inl rfl)]; simp only [Option.bind_some]
          rw [if_neg (by decide),zre h hlive N (i + 1) (by omega) (by omega) (by omega)]
          exact ⟨_,rfl,.inr ⟨hac,w3⟩⟩
        · rw [hf] at w1; cases w1
      · rw [if_neg (fun x=>by rw [g3] at x; omega),zre h hlive N (i + 1) (by omega) (by omega) (by omega)]
        exact ⟨_,rfl,.inl ⟨by omega,rfl⟩⟩
    · have h0:stM m i=0 := (h.live hlt (hlive i hlt hik)).1
      rw [if_neg (fun x=>by
        have h2:stM m i=2 := x.1
        rw [h0] at h2; cases h2)]
      exact zxq h hms hk hlk hlive hok hdn hf hmk hK ha N (i + 1) (by omega) (by omega)
theorem zxr (h:MI C s (fol lv k c) m) (hms:∀ e,miss s e=false) (hk:k < C.L) (hlk:lv k=false) (hlive:∀ i,i < C.L→i≠k→lv i=true) (hok:ArrOk C.ns K y) (hdn:y.down=false) (hf:y.fuse=0) (hmk:miss y k=false) (hK:K + 8≤1000000) (ha:a < C.sz) :
    ∃ t,zc6 m (a:Int) w y=some (0,m,t)∧(c≤a∧t=y∨a < c∧Wrote C.ns K y k a w t) := by
  have hF := zbp
  have hL := C.hL
  unfold zc6
  obtain ⟨t,h1,h2⟩ := zxq (w:=w) h hms hk hlk hlive hok hdn hf hmk hK ha FUEL 0 (by omega) (by omega)
  rw [h1,zd6]
  exact ⟨t,rfl,h2⟩
theorem read_h (h:MI C s (fol lv k c) m) (hms:∀ e,miss s e=false) (hk:k < C.L) (hlk:lv k=false) (hlive:∀ i,i < C.L→i≠k→lv i=true) (hok:ArrOk C.ns K s) (hdn:s.down=false) (hf:s.fuse=0) (hK:K + 8≤1000000) (ha:a < C.sz) (hw:∀ j,j < C.L→lv j=true→now s j a=w) :
    ∃ t,zb4 m (a:Int) s=some (w,0,m,t)∧(t=s∨a < c∧Wrote C.ns K s k a w t) := by
  have hF := zbp
  have hL := C.hL
  have hnf := mi_nf h hms
  have hag := mi_ag h hms
  have hex:∃ j,j < C.L∧(fol lv k c) j=true := by
    by_cases e:k=0
    · exact ⟨1,by omega,hlive 1 (by omega) (by omega)⟩
    · exact ⟨0,by omega,hlive 0 (by omega) (by omega)⟩
  unfold zb4
  rw [if_neg (by omega),if_neg (by rw [h.size]; omega),(zgg h.l6).1 hnf]; simp only [Option.bind_some]
  rw [if_neg (by simp)]
  obtain ⟨f,h1,h2,h3⟩ := ztv h hag hok hdn ha hex
  rw [h3]; simp only [Option.bind_some]
  have hr := MC.reg ha
  rw [if_neg (by simp),h.region,grd_t (decide_eq_true (by have := C.hr; omega)),MC.divI ha,grd_t (decide_eq_true ⟨Int.natCast_nonneg _,by rw [h.dl]; exact Int.ofNat_lt.2 hr⟩),Int.toNat_natCast,hw f h1 h2]
  by_cases hd:m.dirty.getD (a / C.rg) false=true
  · rw [if_pos hd]
    unfold zhd
    obtain ⟨e,x',y',e1,e2⟩ := zjw (r:=zcm m ((f:Nat):Int) [] (a:Int) w s) rfl (P:=fun x y=>x=m∧y=s) (Q:=fun _ _=>False) (fun x y hp=>by rw [hp.1]; exact h.l6)
      (zix (L:=m.legs.length) (f:=zb3 m ((f:Nat):Int) [] (a:Int) w) (ch:=fun i=>zgd ((i:Nat):Int) ((f:Nat):Int)) (act:=fun i x y=>zcs ((i:Nat):Int) [] x (a:Int) w y) (fun _ _ _ _=>rfl)
        (c:=fun i=>decide (((i:Nat):Int)≠((f:Nat):Int))) (fun i _=>rfl) (fun _ x y=>x=m∧y=s) (fun _ _=>False) (fun i x y hp=>by rw [hp.1])
        (fun i x y hi hp hst _=>by
          obtain ⟨rfl,rfl⟩ := hp
          rw [h.len] at hi
          exact ⟨0,y,zoi h hok hdn ha hi (hag i hi hst) (hw i hi (hag i hi hst)),.inl ⟨rfl,rfl,rfl⟩⟩)
        (fun _ _ _ _ hp _=>hp) FUEL 0 m s (by have := h.l6; omega) (by omega) ⟨rfl,rfl⟩)
    rw [e1]; simp only [Option.bind_some]
    rcases e2 with ⟨rfl, -,rfl,rfl⟩ | ⟨-,e2,rfl, -⟩ | ⟨-,e2⟩
    · obtain ⟨t,t1,t2⟩ := zxr (w:=w) h hms hk hlk hlive hok hdn hf (hms k) hK ha
      rw [if_neg (by simp),t1]; simp only [Option.bind_some]
      rw [if_neg (by simp)]
      refine ⟨t,rfl,?_⟩
      rcases t2 with ⟨-,t2⟩ | t2
      · exact .inl t2
      · exact .inr t2
    · exact absurd hnf e2
    · exact e2.elim
  · rw [if_neg hd]
    obtain ⟨e,x',y',e1,e2⟩ := zjw (r:=zdm m [] (a:Int) w s) rfl (P:=fun x y=>x=m∧y=s) (Q:=fun _ _=>False) (fun x y hp=>by rw [hp.1]; exact h.l6)
      (zix (L:=m.legs.length) (f:=zci m [] (a:Int) w) (ch:=fun i=>zf4 ((i:Nat):Int) []) (act:=fun i x y=>zh6 ((i:Nat):Int) x (a:Int) w y) (fun _ _ _ _=>rfl)
        (c:=fun i=>false) (fun i _=>by unfold zf4; rw [zh0 (by simp)]; rfl) (fun _ x y=>x=m∧y=s) (fun _ _=>False) (fun i x y hp=>by rw [hp.1])
        (fun i x y hi hp hst hc=>by cases hc) (fun _ _ _ _ hp _=>hp) FUEL 0 m s (by have := h.l6; omega) (by omega) ⟨rfl,rfl⟩)
    rw [e1]; simp only [Option.bind_some]
    rcases e2 with ⟨rfl, -,rfl,rfl⟩ | ⟨-,e2,rfl, -⟩ | ⟨-,e2⟩
    · rw [if_neg (by simp)]; exact ⟨_,rfl,.inl rfl⟩
    · exact absurd hnf e2
    · exact e2.elim
theorem z32 (h:MI C s (fol lv k c) m) (hms:∀ e,miss s e=false) (hk:k < C.L) (hlk:lv k=false) (hlive:∀ i,i < C.L→i≠k→lv i=true) (hok:ArrOk C.ns K s) (hdn:s.down=false) (hf:s.fuse=0) (hK:K + 16≤1000000) (ha:a < C.sz) :
    ∃ m' y t,zer m (a:Int) v s=some (0,m',t)∧MI C y (fol lv k c) m' ∧ Mk m m' ∧ Wr C (K + 8) s (fol lv k c) a v y∧(∀ j,j < C.L→lv j=true→now y j a=v)∧(c≤a∧t=y∨a < c∧Wrote C.ns (K + 8) y k a v t) := by
  have hL := C.hL
  have hnf := mi_nf h hms
  have tail:∀ {m1:MirS} {s1:ArrS},MI C s1 (fol lv k c) m1→(∀ e,miss s1 e=false)→ArrOk C.ns (K + 1) s1→s1.down=false→s1.fuse=0→Mk m m1→((fol lv k c) C.L=true→Lg C K s s1 (fun k=>k=a / C.rg) (fun _=>False)∧SetB C s1 (a / C.rg) ∧ ∀ c ∈ cand s1 C.L 0,c=headL C.R)→((fol lv k c) C.L=false→s1=s) →
      ∃ m' y t,wtail m1 (a:Int) v s1=some (0,m',t)∧MI C y (fol lv k c) m' ∧ Mk m m' ∧ Wr C (K + 8) s (fol lv k c) a v y∧(∀ j,j < C.L→lv j=true→now y j a=v)∧(c≤a∧t=y∨a < c∧Wrote C.ns (K + 8) y k a v t) := by
    intro m1 s1 h1 hms1 hok1 hdn1 hf1 hmk hl hn
    obtain ⟨y,e1,e2⟩ := z31 (v:=v) h1 hms1 hok1 hdn1 hf1 (by omega) ha
    unfold wtail
    rw [e1]; simp only [Option.bind_some]
    have hmy := e2.mi h1
    have hw := e2.wr hl hn ha
    obtain ⟨t,t1,t2⟩ := zxr (w:=v) (K:=K + 8) hmy (fun e=>by rw [e2.miss]; exact hms1 e) hk hlk hlive (e2.ok.mono (by omega)) e2.dn (e2.fz hf1) (by rw [e2.miss]; exact hms1 k) (by omega) ha
    rw [if_neg (by decide),t1]; simp only [Option.bind_some]
    rw [if_neg (by simp)]
    exact ⟨m1,y,t,rfl,hmy,hmk,hw,fun j hj hlj=>e2.at_ j hj hlj hj,t2⟩
  unfold zer
  rw [if_neg (by omega),if_neg (by rw [h.size]; omega),(zgg h.l6).1 hnf]; simp only [Option.bind_some]
  rw [if_neg (by simp)]
  have hrr := MC.reg ha
  have hrg := C.hr
  rcases zuf h with ⟨g1,g2⟩ | ⟨g,g1,g2,g3,g4,g5⟩ | ⟨g,g1,g2,g3,g4,g5,g6⟩
  · rw [g1]; simp only [Option.elim_none]
    have e:({ m with log := none } : MirS)=m := by cases m; cases g1; rfl
    rw [e]
    exact tail h hms (hok.mono (by omega)) hdn hf Mk.refl (fun hx=>absurd hx (by rw [g2]; decide)) (fun _=>rfl)
  · rw [g1]; simp only [Option.elim_some]
    obtain ⟨e,g',s1,k1,k2⟩ := zvc hok hdn (by omega) g4 g5 hrr
    rw [h.region,grd_t (decide_eq_true (by omega)),MC.divI ha,k1]; simp only [Option.bind_some]
    rcases k2 with ⟨rfl,k3,k4,k5⟩ | ⟨-,k3, -⟩
    · rw [zlg (.inl rfl)]; simp only [Option.bind_some]
      have hml:(⟨m.legs,some g',m.hasLog,m.logState,m.size,(C.rg:Int),m.dirty,m.copied⟩:MirS)=zn0 m g' := by rw [← h.region]; rfl
      rw [if_neg (by simp),hml]
      have hmi := h.withLog_live g2 g3 k5.miss g4 k3 (fun r hr hd=>k5.set r hr (fun x=>x) (h.d g2 r hr hd))
      rw [(zgg hmi.l6).1 (znx hnf)]; simp only [Option.bind_some]
      rw [if_neg (by simp)]
      exact tail hmi (fun e=>by rw [k5.miss]; exact hms e) k5.ok k5.dn (k5.fz hf) zny (fun _=>⟨k5,k4,k3.head⟩) (fun hx=>absurd hx (by rw [g2]; decide))
    · rw [hf] at k3; cases k3
  · rw [hms] at g4; cases g4
end
end Go.Proofs
namespace Go.Proofs
open Go.VG
structure FU (C:MC) (K k c:Nat) (lv:LV) (s:ArrS) (o:OwnS) (m:MirS):Prop where
  x:o.X=some m
  oi:OI C K lv s o
  di:DI C K s o.T lv
  mi:MI C s (fol lv k c) m
  kn:∀ a,a < C.sz→(o.T.getD a s0).known=true ∧ ∀ j,j < C.L→lv j=true→now s j a=(o.T.getD a s0).value
  sm:∀ a,a < C.sz→(o.T.getD a s0).some.length≤K + 1
  dn:s.down=false
  fz:s.fuse=0
  ms:∀ e,miss s e=false
  vk:∀ a,a < c→now s k a=(o.T.getD a s0).value
  kl:k < C.L
  lk:lv k=false
  live:∀ i,i < C.L→i≠k→lv i=true
  cs:c≤C.sz
  cp:m.copied=0
def cpk (m:MirS) (k:Nat) (z:Int):MirS := { m with legs := m.legs.set k ⟨(m.legs.getD k mleg_x0).dev,(m.legs.getD k mleg_x0).state,z⟩ }
section
variable {C:MC} {K K' a k c i n:Nat} {s t u y:ArrS} {lv:LV} {m m' x:MirS} {w v:UInt64} {o:OwnS} {T:List Sec}
theorem FU.mono (h:FU C K k c lv s o m) (hK:K≤K'):FU C K' k c lv s o m := { h with oi := h.oi.mono hK,di := h.di.mono hK,sm := fun a ha=>Nat.le_trans (h.sm a ha) (by omega) }
theorem FU.tl (h:FU C K k c lv s o m) (ha:a < C.sz):a < o.T.length := by rw [h.di.tl]; exact ha
theorem FU.small (h:FU C K k c lv s o m) (hK:K≤90000):zj8 o.T=true := znh (fun a ha=>Nat.le_trans (h.sm a ha) (by omega)) h.di.tl
theorem FU.put (h:FU C K k c lv s o m) (hw:Wrote C.ns K s k a v t) (hv:a < c→v=(o.T.getD a s0).value):FU C (K + 1) k c lv t o m := by
  have hL := C.hL
  have hkl := h.kl
  have hne:∀ j,lv j=true → ¬ k=j := fun j hj e=>by rw [← e,h.lk] at hj; cases hj
  have hcand:∀ j b, ¬ k=j→cand t j b=cand s j b := fun j b hj=>by rw [hw.cand,if_neg (fun z=>hj z.1)]
  have hnow:∀ j b, ¬ k=j→now t j b=now s j b := fun j b hj=>by rw [hw.now,if_neg (fun z=>hj z.1)]
  refine ⟨h.x,(h.oi.arr hw.miss).mono (by omega),⟨hw.ok,h.di.tl,h.di.ex,fun i hi hl=>by rw [hw.miss]; exact h.di.miss i hi hl,h.di.lgl,fun b hb j hj hl c hc => ?_,fun hl c hc => ?_,fun hl r hr => ?_⟩,h.mi.arr hw.miss (fun b _=>⟨hnow _ _ (by omega),hcand _ _ (by omega)⟩),fun b hb => ?_,fun b hb=>Nat.le_trans (h.sm b hb) (by omega),hw.dn,by rw [hw.fuse,h.fz],fun e=>by rw [hw.miss]; exact h.ms e,fun b hb => ?_,h.kl,h.lk,h.live,h.cs,h.cp⟩
  · rw [hcand j b (hne j hl)] at hc; exact h.di.cnd b hb j hj hl c hc
  · rw [hcand C.L 0 (by omega)] at hc; exact h.di.head hl c hc
  · rcases h.di.c hl r hr with z | ⟨f,z⟩
    · exact .inl (fun c hc=>z c (by rw [hcand C.L 1 (by omega)] at hc; exact hc))
    · exact .inr ⟨f,fun b hb hbr j hj hlj c hc=>z b hb hbr j hj hlj c (by rw [hcand j b (hne j hlj)] at hc; exact hc)⟩
  · obtain ⟨k1,k2⟩ := h.kn b hb
    exact ⟨k1,fun j hj hl=>by rw [hnow j b (hne j hl)]; exact k2 j hj hl⟩
  · rw [hw.now]
    by_cases e:a=b
    · rw [if_pos ⟨rfl,e⟩,hv (by omega),e]
    · rw [if_neg (fun z=>e z.2)]; exact h.vk b hb
theorem FU.read (h:FU C K k c lv s o m) (ha:a < C.sz) (hK:K≤60000):∃ t,zb4 m (a:Int) s=some ((o.T.getD a s0).value,0,m,t)∧FU C (K + 1) k c lv t o m∧(c≤a→t=s) := by
  obtain ⟨k1,k2⟩ := h.kn a ha
  obtain ⟨t,t1,t2⟩ := read_h h.mi h.ms h.kl h.lk h.live h.di.ok h.dn h.fz (by omega) ha k2
  refine ⟨t,t1,?_,fun hca => ?_⟩
  · rcases t2 with rfl | ⟨-,t2⟩
    · exact h.mono (by omega)
    · exact h.put t2 (fun _=>rfl)
  · rcases t2 with t2 | ⟨t2, -⟩
    · exact t2
    · omega
theorem z33 (h:FU C K k c lv s o m) (ha:a < C.sz) (hK:K≤60000) {q:Bool} : ∃ t,zb9 o (a:Int) q s=some (0,true,o,t)∧FU C (K + 1) k c lv t o m := by
  have hF := zbp
  obtain ⟨N,hN⟩:∃ N,FUEL=N + 1 := ⟨FUEL - 1,by omega⟩
  obtain ⟨t,t1,t2, -⟩ := h.read ha hK
  refine ⟨t,?_,t2⟩
  unfold zb9
  rw [h.x]; simp only [Option.elim_some]
  rw [t1]; simp only [Option.bind_some]
  rw [setX h.x,hN]
  have hun:zbs (a:Int) (N + 1) o t 0 (o.T.getD a s0).value 0=zcc (a:Int) (zbs (a:Int) N) o t 0 (o.T.getD a s0).value 0 := rfl
  rw [hun]
  unfold zcc
  rw [if_neg (fun x=>absurd x.2 (by decide)),zd6]
  obtain ⟨k1, -⟩ := h.kn a ha
  have hl:0≤(a:Int)∧(a:Int) < (o.T.length:Int) := ⟨by omega,by have := h.tl ha; omega⟩
  rw [if_neg (by simp),if_pos rfl,grd_t (decide_eq_true (h.small (by omega)))]
  have e2:rdTR o.T (a:Int) (o.T.getD a s0).value=true := by
    unfold rdTR
    rw [if_pos hl,Int.toNat_natCast,if_pos k1]
    exact decide_eq_true rfl
  have e3:rdTS o.T (a:Int) (o.T.getD a s0).value q=o.T := by
    unfold rdTS
    rw [if_pos hl,Int.toNat_natCast,if_pos k1]
  rw [e2,e3]
theorem z2r (h:FU C K k c lv s o m) (ha:a < C.sz) (hK:K≤60000):∃ o' m' t,zc1 o (a:Int) v s=some (0,true,o',t)∧FU C (K + 9) k c lv t o' m' := by
  have hF := zbp
  have hkl := h.kl
  obtain ⟨N,hN⟩:∃ N,FUEL=N + 1 := ⟨FUEL - 1,by omega⟩
  have hlt := h.tl ha
  obtain ⟨m',y,t,t1,t2,t3,t4,t5,t6⟩ := z32 (v:=v) h.mi h.ms h.kl h.lk h.live h.di.ok h.dn h.fz (by omega) ha
  have hat:∀ b,(zcq o.T (a:Int) v true).getD b s0=if b=a then ⟨(o.T.getD a s0).some ++ [v],true,v⟩ else o.T.getD b s0 := fun b=>zk9 hlt
  have hy:FU C (K + 8) k (if a < c then c else c) lv y { o with X := some m',T := zcq o.T (a:Int) v true } m' ∨ True := .inr trivial
  -- what the good legs have, and what leg k has had
  have hoi:OI C (K + 8) lv y { o with X := some m',T := zcq o.T (a:Int) v true } := by
    have h9:OI C K lv s { o with X := some m',T := zcq o.T (a:Int) v true } := h.oi.set rfl rfl rfl rfl rfl rfl
    exact (h9.arr t4.miss).mono (by omega)
  have hdi:DI C (K + 8) y (zcq o.T (a:Int) v true) lv := zxo (wr_di (z1i h.di) t4.toWrD ha)
  have hkn:∀ b,b < C.sz→((zcq o.T (a:Int) v true).getD b s0).known=true ∧ ∀ j,j < C.L→lv j=true→now y j b=((zcq o.T (a:Int) v true).getD b s0).value := fun b hb=>by
    rw [hat]
    split
    · rename_i e; subst e; exact ⟨rfl,t5⟩
    · rename_i e
      obtain ⟨k1,k2⟩ := h.kn b hb
      exact ⟨k1,fun j hj hl=>by rw [t4.now j hj hl b hb e]; exact k2 j hj hl⟩
  have hsm:∀ b,b < C.sz→((zcq o.T (a:Int) v true).getD b s0).some.length≤K + 8 + 1 := fun b hb=>Nat.le_trans (wr_sm h.sm h.di.tl ha b hb) (by omega)
  have hdead:∀ b,b < C.sz→now y k b=now s k b := fun b hb=>t4.dead k hkl h.lk b hb
  have hfin:FU C (K + 9) k c lv t { o with X := some m',T := zcq o.T (a:Int) v true } m' := by
    rcases t6 with ⟨hca,rfl⟩ | ⟨hac,hw⟩
    · refine ⟨rfl,hoi.mono (by omega),hdi.mono (by omega),t2,hkn,fun b hb=>Nat.le_trans (hsm b hb) (by omega),t4.dn,t4.fz h.fz,fun e=>by rw [t4.miss]; exact h.ms e,fun b hb => ?_,h.kl,h.lk,h.live,h.cs,t3.copied.trans h.cp⟩
      have hcs := h.cs
      show now t k b=((zcq o.T (a:Int) v true).getD b s0).value
      rw [hat,if_neg (by omega),hdead b (by omega)]; exact h.vk b hb
    · -- as if leg k did not follow, and then it does
      have hcs := h.cs
      have hL := C.hL
      have hne:∀ j,lv j=true → ¬ k=j := fun j hj e=>by rw [← e,h.lk] at hj; cases hj
      have hcand:∀ j b, ¬ k=j→cand t j b=cand y j b := fun j b hj=>by rw [hw.cand,if_neg (fun z=>hj z.1)]
      have hnow:∀ j b, ¬ k=j→now t j b=now y j b := fun j b hj=>by rw [hw.now,if_neg (fun z=>hj z.1)]
      refine ⟨rfl,(hoi.arr hw.miss).mono (by omega),⟨hw.ok,hdi.tl,hdi.ex,fun i hi hl=>by rw [hw.miss]; exact hdi.miss i hi hl,hdi.lgl,fun b hb j hj hl c hc => ?_,fun hl c hc => ?_,fun hl r hr => ?_⟩,t2.arr hw.miss (fun b _=>⟨hnow _ _ (by omega),hcand _ _ (by omega)⟩),fun b hb => ?_,fun b hb=>Nat.le_trans (hsm b hb) (by omega),hw.dn,by rw [hw.fuse,t4.fz h.fz],fun e=>by rw [hw.miss,t4.miss]; exact h.ms e,fun b hb => ?_,h.kl,h.lk,h.live,h.cs,t3.copied.trans h.cp⟩
      · rw [hcand j b (hne j hl)] at hc; exact hdi.cnd b hb j hj hl c hc
      · rw [hcand C.L 0 (by omega)] at hc; exact hdi.head hl c hc
      · rcases hdi.c hl r hr with z | ⟨f,z⟩
        · exact .inl (fun c hc=>z c (by rw [hcand C.L 1 (by omega)] at hc; exact hc))
        · exact .inr ⟨f,fun b hb hbr j hj hlj c hc=>z b hb hbr j hj hlj c (by rw [hcand j b (hne j hlj)] at hc; exact hc)⟩
      · obtain ⟨k1,k2⟩ := hkn b hb
        exact ⟨k1,fun j hj hl=>by rw [hnow j b (hne j hl)]; exact k2 j hj hl⟩
      · show now t k b=((zcq o.T (a:Int) v true).getD b s0).value
        rw [hw.now,hat]
        by_cases e:a=b
        · rw [if_pos ⟨rfl,e⟩,if_pos e.symm]
        · rw [if_neg (fun z=>e z.2),if_neg (fun z=>e z.symm),hdead b (by omega)]; exact h.vk b hb
  refine ⟨_,m',t,?_,hfin⟩
  unfold zc1
  rw [h.x]; simp only [Option.elim_some]
  rw [t1]; simp only [Option.bind_some]
  rw [hN]
  have hun:zbm (a:Int) v (N + 1) { o with X := some m' } t 0 0=zbw (a:Int) v (zbm (a:Int) v N) { o with X := some m' } t 0 0 := rfl
  rw [hun]
  unfold zbw
  rw [if_neg (fun x=>absurd x.2 (by decide)),zd6,grd_t (decide_eq_true (h.small (by omega)))]
  rfl
theorem z2s (h:FU C K k c lv s o m) (hK:K≤60000):∃ o' m' t,zb5 o s=some (0,true,o',t)∧FU C (K + 12) k c lv t o' m' := by
  have hF := zbp
  have hkl := h.kl
  have hcs := h.cs
  obtain ⟨N,hN⟩:∃ N,FUEL=N + 1 := ⟨FUEL - 1,by omega⟩
  obtain ⟨e,m',t,t1,t2⟩ := zxa h.mi (mi_nf h.mi h.ms) h.di.ok h.dn (by omega)
  rcases t2 with ⟨rfl,g1,g2,g3,g4,g5⟩ | ⟨-,g1,g2,g3,g4⟩ | ⟨-,g1, -⟩
  · have hat:∀ b,b < C.sz→(ze1 o.T).getD b s0=zf6 (o.T.getD b s0) := fun b hb=>zpn h.di.tl hb
    have hval:∀ b,b < C.sz→(zf6 (o.T.getD b s0)).value=(o.T.getD b s0).value∧(zf6 (o.T.getD b s0)).known=true := fun b hb=>by
      unfold zf6
      rw [if_pos (h.kn b hb).1]; exact ⟨rfl,(h.kn b hb).1⟩
    have hkn:∀ b,b < C.sz→(o.T.getD b s0).known=true ∧ ∀ j,j < C.L→lv j=true→now t j b=(o.T.getD b s0).value := fun b hb=>by
      obtain ⟨k1,k2⟩ := h.kn b hb
      exact ⟨k1,fun j hj hl=>by rw [g4.now j b hj hb]; exact k2 j hj hl⟩
    have h0:DI C (K + 12) t o.T lv := zxo (fl_di (z1i h.di) (fun a ha=>(h.kn a ha).2) g4.toFlD)
    have hdi := zxf h0 hkn (fun j hj hl b hb=>by rw [g5 j hj hl b hb,g4.now j b hj hb])
    have h9:OI C K lv s { o with X := some m',T := ze1 o.T } := h.oi.set rfl rfl rfl rfl rfl rfl
    refine ⟨{ o with X := some m',T := ze1 o.T },m',t,?_,⟨rfl,(h9.arr g4.miss).mono (by omega),hdi,g2,fun b hb => ?_,fun b hb => ?_,g4.dn,g4.fz h.fz,fun e=>by rw [g4.miss]; exact h.ms e,fun b hb => ?_,h.kl,h.lk,h.live,h.cs,g3.copied.trans h.cp⟩⟩
    · unfold zb5
      rw [h.x]; simp only [Option.elim_some]
      rw [t1]; simp only [Option.bind_some]
      rw [hN]
      have hun:zbo (N + 1) { o with X := some m' } t 0 0=zbx (zbo N) { o with X := some m' } t 0 0 := rfl
      rw [hun]
      unfold zbx
      rw [if_neg (fun x=>absurd x.2 (by decide)),zd6,if_pos (by simp)]
      rfl
    · show ((ze1 o.T).getD b s0).known=true ∧ ∀ j,j < C.L→lv j=true→now t j b=((ze1 o.T).getD b s0).value
      rw [hat b hb,(hval b hb).1]
      exact ⟨(hval b hb).2,(hkn b hb).2⟩
    · show ((ze1 o.T).getD b s0).some.length≤_
      rw [hat b hb]
      unfold zf6
      rw [if_pos (h.kn b hb).1]; simp
    · show now t k b=((ze1 o.T).getD b s0).value
      rw [hat b (by omega),(hval b (by omega)).1,g4.now k b hkl (by omega)]; exact h.vk b hb
  · exact absurd (mi_nf g2 (fun e=>by rw [g4.miss]; exact h.ms e)) g1
  · exact absurd h.fz g1
theorem z34 (h:FU C K k c lv s o m) (hK:K≤60000) (S:volumegroupmake_Step) (hS:S.Kind < 3):∃ o' m' t,zeu o S s=some (true,o',t)∧FU C (K + 12) k c lv t o' m' := by
  have hs := C.hs
  obtain ⟨a,ha1,ha,hlo,hhi⟩ := at_ok S.At (n:=C.sz) (by omega) (by omega)
  unfold zeu
  rw [h.di.tl,grd_t (decide_eq_true (by omega)),grd_t (zdo (by omega)),grd_t (decide_eq_true (by omega)),ha1]
  simp only [lt]
  by_cases k0:S.Kind=0
  · rw [if_pos k0]
    obtain ⟨o1,m1,s1,w1,w2⟩ := z2r (v:=S.Value) h ha hK
    rw [w1]; simp only [Option.bind_some]
    rw [if_neg (by simp),if_pos (by simp)]
    exact ⟨o1,m1,s1,rfl,w2.mono (by omega)⟩
  · rw [if_neg k0]
    by_cases k1:S.Kind=1
    · rw [if_pos k1]
      obtain ⟨s1,w1,w2⟩ := z33 (q:=false) h ha hK
      rw [w1]; simp only [Option.bind_some]
      rw [if_neg (by simp),if_pos (by simp)]
      exact ⟨o,m,s1,rfl,w2.mono (by omega)⟩
    · rw [if_neg k1]
      by_cases k2:S.Kind=2
      · rw [if_pos k2]
        obtain ⟨o1,m1,s1,w1,w2⟩ := z2s h hK
        rw [w1]; simp only [Option.bind_some]
        rw [if_neg (by simp),if_pos (by simp)]
        exact ⟨o1,m1,s1,rfl,w2⟩
      · rw [if_neg k2,if_neg (by omega),if_neg (by omega)]; simp only [Option.bind_some]
        rw [if_neg (by simp),if_pos (by simp)]
        exact ⟨o,m,s,rfl,h.mono (by omega)⟩
theorem FU.ext (h:FU C K k c lv s o m) (hc:c < C.sz) (hv:now s k c=(o.T.getD c s0).value):FU C K k (c + 1) lv s { o with X := some (cpk m k ((c + 1:Nat):Int)) } (cpk m k ((c + 1:Nat):Int)) := by
  have hkl:k < m.legs.length := by rw [h.mi.len]; exact h.kl
  have hat:∀ j,(cpk m k ((c + 1:Nat):Int)).legs.getD j mleg_x0=if j=k then ⟨(m.legs.getD k mleg_x0).dev,(m.legs.getD k mleg_x0).state,((c + 1:Nat):Int)⟩ else m.legs.getD j mleg_x0 := fun j=>znf hkl
  have hmi:MI C s (fol lv k (c + 1)) (cpk m k ((c + 1:Nat):Int)) := by
    refine ⟨by unfold cpk; simp [h.mi.len],fun i hi => ?_,h.mi.size,h.mi.region,h.mi.hasLog,h.mi.dl,h.mi.log,h.mi.d⟩
    obtain ⟨g1,g2,g3⟩ := h.mi.leg i hi
    unfold stM at g2 g3 ⊢
    rw [hat]
    by_cases e:i=k
    · subst e
      rw [if_pos rfl]
      exact ⟨g1,.inl (if_pos rfl).symm,g3⟩
    · rw [if_neg e]
      refine ⟨g1,?_,g3⟩
      rcases g2 with g2 | g2
      · refine .inl (g2.trans ?_)
        show (if i=k then (c:Int) else 0)=(if i=k then ((c + 1:Nat):Int) else 0)
        rw [if_neg e,if_neg e]
      · exact .inr g2
  refine ⟨rfl,h.oi.set rfl rfl rfl rfl rfl rfl,h.di,hmi,h.kn,h.sm,h.dn,h.fz,h.ms,fun b hb => ?_,h.kl,h.lk,h.live,hc,h.cp⟩
  by_cases e:b=c
  · rw [e]; exact hv
  · exact h.vk b (by omega)
theorem FU.cop (h:FU C K k c lv s o m):stM m k=2∧(m.legs.getD k mleg_x0).copied=(c:Int) := by
  obtain ⟨g1,g2⟩ := zxp h.mi h.ms h.kl h.lk
  exact ⟨g1,g2.trans (if_pos rfl)⟩
theorem zvl:∀ (N n K c:Nat) (o:OwnS) (m:MirS) (s:ArrS),n < N→K + 2 * n≤60000→FU C K k c lv s o m →
    ∃ o' m' t,zfu ((k:Nat):Int) N m s ((n:Nat):Int)=some (.inl (m',t))∧FU C (K + 2 * n) k (min C.sz (c + n)) lv t o' m' ∧ o' = { o with X := some m' }
  | 0,_,_,_,_,_,_,h,_,_=>absurd h (by omega)
  | N + 1,n,K,c,o,m,s,h,hK,hu=>by
    have hun:zfu ((k:Nat):Int) (N + 1) m s ((n:Nat):Int)=zhk ((k:Nat):Int) (zfu ((k:Nat):Int) N) m s ((n:Nat):Int) := rfl
    rw [hun]
    unfold zhk
    have hcs := hu.cs
    have hs := C.hs
    have hkl:k < m.legs.length := by rw [hu.mi.len]; exact hu.kl
    by_cases hn:n=0
    · subst hn
      rw [if_neg (by omega)]
      refine ⟨o,m,s,rfl,?_,(setX hu.x).symm⟩
      rw [show min C.sz (c + 0)=c by omega]; exact hu.mono (by omega)
    · rw [if_pos (by omega),Int.toNat_natCast,grd_t (decide_eq_true hkl),hu.cop.2,hu.mi.size]
      by_cases hc:c < C.sz
      · rw [if_pos (by omega),grd_t (decide_eq_true hkl)]
        obtain ⟨t1,r1,r2,r3⟩ := hu.read hc (by omega)
        obtain rfl := r3 (Nat.le_refl _)
        rw [r1]; simp only [Option.bind_some]
        rw [if_neg (by simp),grd_t (decide_eq_true hkl),grd_t (decide_eq_true hkl),hu.cop.2,hu.mi.dev hu.kl,zoh hu.di.ok (by omega) hu.kl hc]; simp only [Option.bind_some]
        rcases hu.di.ok.wrA (v:=(o.T.getD c s0).value) (by omega) hu.dn (by rw [MC.len]; have := hu.kl; omega:k < C.ns.length) (by rw [MC.leg hu.kl]; exact hc) (hu.ms k) with ⟨-,w2,w3⟩ | ⟨w1, -, -⟩
        · rw [w2,if_neg (by decide),grd_t (decide_eq_true hkl),grd_t (zdo (by omega)),grd_t (decide_eq_true hkl),grd_t (zdo (by omega))]
          have hp := hu.put w3 (fun hx=>absurd hx (by omega))
          have he := hp.ext hc (by rw [w3.now,if_pos ⟨rfl,rfl⟩])
          obtain ⟨o',m',t,f1,f2,f3⟩ := zvl N (n - 1) (K + 1) (c + 1) _ _ _ (by omega) (by omega) he
          have e1:((n:Nat):Int) - 1=((n - 1:Nat):Int) := by omega
          have e2:((c:Nat):Int) + 1=((c + 1:Nat):Int) := by omega
          rw [e1,e2]
          have e3:cpk m k ((c + 1:Nat):Int)=⟨m.legs.set k ⟨xL k C.sz,(m.legs.getD k mleg_x0).state,((c + 1:Nat):Int)⟩,m.log,m.hasLog,m.logState,m.size,m.region,m.dirty,m.copied⟩ := by
            unfold cpk; rw [hu.mi.dev hu.kl]
          rw [e3] at f1
          refine ⟨o',m',t,f1,?_,f3⟩
          rw [show min C.sz (c + n)=min C.sz (c + 1 + (n - 1)) by omega]
          exact f2.mono (by omega)
        · rw [hu.fz] at w1; cases w1
      · rw [if_neg (by omega)]
        refine ⟨o,m,s,rfl,?_,(setX hu.x).symm⟩
        rw [show min C.sz (c + n)=c by omega]; exact hu.mono (by omega)
theorem zrf (h:FU C K k c lv s o m):zft m ((k:Nat):Int) s=some 0 := by
  have hkl:k < m.legs.length := by rw [h.mi.len]; exact h.kl
  unfold zft
  rw [if_neg (by omega),(zgg h.mi.l6).1 (mi_nf h.mi h.ms)]; simp only [Option.bind_some]
  rw [if_neg (by simp),Int.toNat_natCast,if_neg (by
    rintro (z | z)
    · omega
    · exact z h.cop.1)]
theorem z1j (h:FU C K k c lv s o m) (hn:n≤1000) (hK:K≤50000) :
    ∃ m' t,zg7 m ((k:Nat):Int) ((n:Nat):Int) s=some (((min C.sz (c + n):Nat):Int),0,m',t)∧FU C (K + 2 * n) k (min C.sz (c + n)) lv t { o with X := some m' } m' := by
  have hF := zbp
  obtain ⟨o',m',t,f1,f2,rfl⟩ := zvl FUEL n K c o m s (by omega) (by omega) h
  unfold zg7
  rw [if_neg (by omega),zrf h]; simp only [Option.bind_some]
  have hkl:k < m.legs.length := by rw [h.mi.len]; exact h.kl
  have hkl':k < m'.legs.length := by rw [f2.mi.len]; exact h.kl
  rw [if_neg (by simp),grd_t (decide_eq_true (by omega)),f1,zd6,Int.toNat_natCast,grd_t (decide_eq_true hkl'),f2.cop.2]
  exact ⟨m',t,rfl,f2⟩
end
end Go.Proofs
namespace Go.Proofs
open Go.VG
section
variable {s t:ArrS} {K k d:Nat}
structure Ld (ns:List Nat) (K:Nat) (s:ArrS) (d:Nat) (im:List UInt64) (t:ArrS):Prop where
  ok:ArrOk ns K t
  dn:t.down=s.down
  fuse:t.fuse=s.fuse
  miss:∀ e,Go.Proofs.miss t e=Go.Proofs.miss s e
  oth:∀ i a,i≠d→Go.Proofs.now t i a=Go.Proofs.now s i a∧cand t i a=cand s i a
  own:∀ a,Go.Proofs.now t d a=im.getD a 0∧cand t d a=[im.getD a 0]
theorem zxs {l:List Drive} {i j:Nat} {x:Drive} (h:i < l.length):(l.set i x).getD j d0=if j=i then x else l.getD j d0 := by
  simp only [List.getD,List.getElem?_set]
  by_cases e:i=j
  · subst e; simp [h]
  · rw [if_neg e,if_neg (fun x=>e x.symm)]
theorem z1k {n:Nat} : zku [] ((d:Nat):Int) n=[] := by
  unfold zku
  generalize List.range n=l
  induction l with
  | nil=>rfl
  | cons x l ih=>rw [List.foldl_cons,show delM [] (((d:Nat):Int),((x:Nat):Int))=[] from rfl]; exact ih
theorem z35 {ns:List Nat} {im:List UInt64} (h:ArrOk ns K s) (hd:d < ns.length) (hl:im.length=ns.getD d 0):ldC s ((d:Nat):Int) im=0∧Ld ns K s d im (ldS s ((d:Nat):Int) im) := by
  have hdd := h.disk hd
  have hsz:(s.drv.getD d d0).now.length=ns.getD d 0 := by rw [← h.sz.size d hd,zf0]; rfl
  have hc:ldC s ((d:Nat):Int) im=0 := by
    unfold ldC
    rw [if_pos (show inR s ((d:Nat):Int) from ⟨by omega,by omega⟩),Int.toNat_natCast,hsz,if_pos hl]
  have hdrv:(ldS s ((d:Nat):Int) im).drv=s.drv.set d ⟨im,im,(s.drv.getD d d0).miss⟩ := by unfold ldS; rw [if_pos hc,Int.toNat_natCast]
  have hlog:(ldS s ((d:Nat):Int) im).log=s.log.filter (fun r => !decide ((r.d:Int)=((d:Nat):Int))) := by unfold ldS; rw [if_pos hc]
  have hbad:(ldS s ((d:Nat):Int) im).bad=[] := by unfold ldS; rw [if_pos hc,h.bad]; exact z1k
  have hdn:(ldS s ((d:Nat):Int) im).down=s.down := by unfold ldS; rw [if_pos hc]
  have hfu:(ldS s ((d:Nat):Int) im).fuse=s.fuse := by unfold ldS; rw [if_pos hc]
  have hwr:(ldS s ((d:Nat):Int) im).writes=s.writes := by unfold ldS; rw [if_pos hc]
  generalize ldS s ((d:Nat):Int) im=t at hdrv hlog hbad hdn hfu hwr
  have hnow:∀ e,nowL t e=if e=d then im else nowL s e := fun e=>by
    unfold nowL; rw [hdrv,zxs hdd]; split <;> rfl
  have hdur:∀ e,durL t e=if e=d then im else durL s e := fun e=>by
    unfold durL; rw [hdrv,zxs hdd]; split <;> rfl
  have hpe:∀ e a,pend t e a=if e=d then [] else pend s e a := fun e a=>by
    show pendR t.log e a=_
    unfold pend pendR
    rw [hlog,List.filter_filter]
    split
    · rename_i z; subst z
      rw [List.filter_eq_nil_iff.2 (fun r _=>by simp; omega)]; rfl
    · rename_i z
      congr 2
      funext r
      by_cases y:r.d=e
      · have:¬ ((r.d:Int)=((d:Nat):Int)) := by omega
        simp [this]
      · simp [y]
  have hsize:∀ e,t.size e=if e=d then ns.getD d 0 else s.size e := fun e=>by
    rw [zf0,hnow]; split
    · exact hl
    · rw [zf0]
  refine ⟨hc,⟨⟨by rw [hdrv,List.length_set]; exact h.sz.cnt,fun e he => ?_,by rw [hwr]; exact h.sz.wr⟩,by rw [hwr]; exact h.wr,⟨fun e => ?_,fun e a ha => ?_,fun r hr => ?_⟩,hbad⟩,hdn,hfu,fun e => ?_,fun i a hi => ?_,fun a => ?_⟩
  · rw [hsize]; split
    · rename_i z; rw [z]
    · exact h.sz.size e he
  · rw [hnow,hdur]; split
    · rfl
    · exact h.coh.len e
  · rw [hpe]; show lastD ((durL t e).getD a 0) _=(nowL t e).getD a 0
    rw [hdur,hnow]
    rw [hsize] at ha
    split
    · rfl
    · rename_i z; rw [if_neg z] at ha; exact h.coh.last e a ha
  · rw [hlog] at hr
    have h1 := List.mem_filter.1 hr
    have h2 := h.coh.log r h1.1
    have h3:r.d≠d := fun z=>by have := h1.2; rw [z] at this; simp at this
    rw [hdrv,List.length_set,hsize,if_neg h3]
    exact h2
  · show (t.drv.getD e d0).miss=_
    rw [hdrv,zxs hdd]; split
    · rename_i z; rw [z]; rfl
    · rfl
  · refine ⟨?_,?_⟩
    · show (nowL t i).getD a 0=_
      rw [hnow,if_neg hi]; rfl
    · show (durL t i).getD a 0::pend t i a=_
      rw [hdur,hpe,if_neg hi,if_neg hi]; rfl
  · refine ⟨?_,?_⟩
    · show (nowL t d).getD a 0=_
      rw [hnow,if_pos rfl]
    · show (durL t d).getD a 0::pend t d a=_
      rw [hdur,hpe,if_pos rfl,if_pos rfl]
end
end Go.Proofs
namespace Go.Proofs
open Go.VG
section
variable {C:MC} {ws:List UInt64} {K K' a k c i n:Nat} {s t u y:ArrS} {lv:LV} {m m' x:MirS} {w v:UInt64} {o:OwnS} {T:List Sec}
theorem z2t {s:ArrS} (hw:ws.length=C.sz):zfa s (C.L:Int) (C.sz:Int) (C.rg:Int) C.lg ws=some (own0 C ws) := by
  have := C.hs
  unfold zfa
  rw [grd_t (decide_eq_true (by omega))]; rfl
def lvK (C:MC) (k:Nat):LV := ⟨fun i=>if i=k then false else (lvA C) i,[((k:Nat):Int)],fun _=>0,fun _=>false⟩
theorem lvK_k:(lvK C k) k=false := if_pos rfl
theorem lvK_o {i:Nat} (h:i < C.L) (hk:i≠k):(lvK C k) i=true := by show (if i=k then false else (lvA C) i)=true; rw [if_neg hk]; exact zmd h
theorem zyz (hk:k < C.L):(lvK C k) C.L=C.lg := by show (if C.L=k then false else (lvA C) C.L)=C.lg; rw [if_neg (by omega)]; exact zpo
theorem z36 {im:List UInt64} (h:St0 C ws s) (hk:k < C.L) (ht:Ld C.ns 10 s k im t) :
    ∃ o' m,zdg { own0 C ws with Stale := [((k:Nat):Int)],Lost := [((k:Nat):Int)] } t=some (true,o')∧UP C 1000 (lvK C k) t o' m (fun _=>False)∧NF m∧m.copied=0 := by
  have hL := C.hL
  have hs := C.hs
  have hlv:∀ i,i < C.L→(lvK C k) i=true→i≠k := fun i _ hl z=>by rw [z,lvK_k] at hl; cases hl
  have hex:∃ i,i < C.L∧(lvK C k) i=true := by
    by_cases e:k=0
    · exact ⟨1,by omega,lvK_o (by omega) (by omega)⟩
    · exact ⟨0,by omega,lvK_o (by omega) (by omega)⟩
  have hlg:(lvK C k) C.L=true→C.lg=true := fun x=>by rw [← zyz hk]; exact x
  have hnow:∀ i a,i < C.L→(lvK C k) i=true→a < C.sz→now t i a=ws.getD a 0∧cand t i a=[ws.getD a 0] := fun i a hi hl ha=>by
    have h1 := ht.oth i a (hlv i hi hl)
    rw [h1.1,h1.2,h.cand i a (by omega) (by rw [MC.leg hi]; exact ha),h.now i a hi ha]
    exact ⟨rfl,rfl⟩
  have hlogc:∀ b,b < 3→now t C.L b=now s C.L b∧cand t C.L b=[now s C.L b] := fun b hb=>by
    have h1 := ht.oth C.L b (by omega)
    rw [h1.1,h1.2,h.cand C.L b (Nat.le_refl _) (by rw [MC.log]; exact hb)]
    exact ⟨rfl,rfl⟩
  have hmi:∀ e,miss t e=false := fun e=>by rw [ht.miss]; exact h.miss e
  have hdi:DI C 10 t (trkT ws) (lvK C k) := by
    refine ⟨ht.ok,by unfold trkT; simp [h.wl],hex,fun i _ _=>hmi i,hlg,fun a ha i hi hl c hc => ?_,fun _ c hc => ?_,fun _ r _ => .inr ⟨fun b=>ws.getD b 0,fun b hb _ i hi hl c hc => ?_⟩⟩
    · rw [(hnow i a hi hl ha).2,List.mem_singleton] at hc
      rw [zrp (by rw [h.wl]; exact ha),hc]; exact List.mem_singleton.2 rfl
    · rw [(hlogc 0 (by decide)).2,List.mem_singleton,h.head] at hc
      exact hc
    · rw [(hnow i b hi hl hb).2,List.mem_singleton] at hc
      exact hc
  have hoi:OI C 10 (lvK C k) t { own0 C ws with Stale := [((k:Nat):Int)],Lost := [((k:Nat):Int)] } :=
    ⟨rfl,rfl,rfl,rfl,fun x hx=>⟨k,by omega,List.mem_singleton.1 hx,lvK_k⟩,by simp,fun i hi hl=>by
      by_cases e:i=k
      · exact .inl (List.mem_singleton.2 (by rw [e]))
      · rcases Nat.lt_or_ge i C.L with x | x
        · rw [lvK_o x e] at hl; cases hl
        · have:i=C.L := by omega
          subst this
          rw [zyz hk] at hl
          exact .inr (.inr ⟨rfl,hl⟩),fun i _ hm=>(by rw [hmi] at hm; cases hm),fun x hx=>⟨k,by omega,List.mem_singleton.1 hx,lvK_k⟩,⟨rfl,by simp [lvK]⟩,fun _ _=>rfl,hmi⟩
  obtain ⟨o',m,b1,b2,b3⟩ := z1a hoi hdi.miss hdi.ok (by rw [ht.dn]; exact h.dn) hex hlg (by omega) hdi.head (fun _=>by rw [(hlogc 1 (by decide)).2,(hlogc 1 (by decide)).1]) (by unfold own0 trkT; simp [h.wl])
  have hT':o'.T=trkT ws := b3.T
  refine ⟨o',m,b1,⟨b2,b3.oi.mono (by omega),by rw [hT']; exact hdi.mono (by omega),b3.mi,fun a ha _ => ?_,fun a ha => ?_,by rw [ht.dn]; exact h.dn⟩,b3.nf,b3.copied⟩
  · rw [hT',zrp (by rw [h.wl]; exact ha)]
    exact ⟨rfl,fun j hj hl=>(hnow j a hj hl ha).1⟩
  · rw [hT',zrp (by rw [h.wl]; exact ha)]
    show ([_]:List UInt64).length≤_
    simp
def lvK0 (C:MC) (k:Nat):LV := ⟨(lvK C k).f,[],fun _=>0,fun _=>false⟩
theorem z2u (h:UP C K (lvK C k) s o m (fun _=>False)) (hk:k < C.L) (hf:s.fuse=0) (hcp:m.copied=0):FU C K k 0 (lvK0 C k) s { o with Lost := [] } m := by
  have hms:∀ e,miss s e=false := fun e=>h.oi.mm e
  have hoi := h.oi
  have hmi := h.mi
  refine ⟨h.x,⟨hoi.o1,hoi.o2,hoi.o3,hoi.o4,hoi.st,hoi.sl,hoi.nl,fun i _ hm=>(by rw [hms] at hm; cases hm),fun z hz=>(by cases hz),⟨rfl,by simp [lvK0]⟩,fun _ _=>rfl,hms⟩,
    ⟨h.di.ok,h.di.tl,h.di.ex,h.di.miss,h.di.lgl,h.di.cnd,h.di.head,h.di.c⟩,⟨hmi.len,fun i hi => ?_,hmi.size,hmi.region,hmi.hasLog,hmi.dl,hmi.log,hmi.d⟩,fun a ha=>h.kn a ha (fun z=>z),h.sm,h.dn,hf,hms,fun a ha=>absurd ha (by omega),hk,lvK_k,fun i hi hik=>lvK_o hi hik,by omega,hcp⟩
  obtain ⟨g1,g2,g3⟩ := hmi.leg i hi
  refine ⟨g1,?_,g3⟩
  rcases g2 with g2 | g2
  · refine .inl (g2.trans ?_)
    show (0:Int)=if i=k then ((0:Nat):Int) else 0
    split <;> rfl
  · exact .inr g2
theorem z2v (h:FU C K k c lv s o m) (hK:K≤60000):∃ m' t,zf5 m (1000:Int) s=some (0,0,m',t)∧FU C (K + 100) k c lv t { o with X := some m' } m' ∧ drtyL m'.dirty C.R=[] := by
  have hs := C.hs
  have hv:Val C (fol lv k c) s (fun b=>(o.T.getD b s0).value) := fun b hb j hj hlj=>(h.kn b hb).2 j hj hlj
  have hls := zul (C:=C) (d:=m.dirty) C.R
  have h0:cpOk C (drtyL m.dirty C.R) 0 := zvj (fun k hk=>by obtain ⟨r,q1, -,q2⟩ := zrc hk; exact ⟨r,q1,q2⟩)
  have hex := h.di.ex
  obtain ⟨d,c',t,t1,t2,t3,t4,t5,t6⟩ := z1h (n:=1000) h.mi (mi_nf h.mi h.ms) (mi_ag h.mi h.ms) hv h.di.ok h.dn h.fz (by omega) hex (by omega) h.cp h0
  have e0:lsum C (drtyL m.dirty C.R) - 0 - 1000=0 := by omega
  rw [e0] at t1
  obtain ⟨z1,rfl⟩ := z2q t5 (by omega)
  have hmi := (t2.mi h.mi).dc (c:=((0:Nat):Int)) t3 t4
  have hkl := h.kl
  have hcs := h.cs
  have h9:OI C K lv s { o with X := some (mOf m d ((0:Nat):Int)) } := h.oi.set rfl rfl rfl rfl rfl rfl
  refine ⟨_,t,t1,⟨rfl,(h9.arr t2.miss).mono (by omega),⟨t2.ok,h.di.tl,h.di.ex,fun i hi hl=>by rw [t2.miss]; exact h.di.miss i hi hl,h.di.lgl,fun a ha i hi hl c hc=>h.di.cnd a ha i hi hl c (t2.sub i hi hl a ha c hc),fun hl c hc=>h.di.head hl c (by rw [← (t2.log 0 (by decide)).2]; exact hc),fun hl r hr => ?_⟩,hmi,fun a ha => ?_,fun a ha=>Nat.le_trans (h.sm a ha) (by omega),t2.dn,t2.fz,fun e=>by rw [t2.miss]; exact h.ms e,fun a ha => ?_,h.kl,h.lk,h.live,h.cs,rfl⟩,z1⟩
  · rcases h.di.c hl r hr with z | ⟨f,z⟩
    · exact .inl (fun c hc=>z c (by rw [← (t2.log 1 (by decide)).2]; exact hc))
    · exact .inr ⟨f,fun a ha har i hi hli c hc=>z a ha har i hi hli c (t2.sub i hi hli a ha c hc)⟩
  · obtain ⟨k1,k2⟩ := h.kn a ha
    exact ⟨k1,fun j hj hl=>by rw [t2.now j a hj ha]; exact k2 j hj hl⟩
  · rw [t2.now k a hkl (by omega)]; exact h.vk a ha
theorem z1l (h:FU C K k c lv s o m) (hc:c < C.sz):ze7 m ((k:Nat):Int) s=some (20,m,s) := by
  unfold ze7
  rw [zrf h]; simp only [Option.bind_some]
  have hkl := h.kl
  rw [if_neg (by simp),grd_t (decide_eq_true ⟨by omega,by rw [h.mi.len]; omega⟩),Int.toNat_natCast,h.cop.2,h.mi.size,if_pos (by omega)]
theorem z2w (h:FU C K k C.sz lv s o m) (hK:K≤60000) (hd:drtyL m.dirty C.R=[]) (hlost:o.Lost=[]) (hlg:lv C.L=(lvA C) C.L) :
    ∃ m' t,ze7 m ((k:Nat):Int) s=some (0,m',t)∧UP C K (lvA C) t { o with X := some m',Stale := [] } m' (fun _=>False)∧NF m' ∧ t.fuse=0∧(∀ e,miss t e=false) := by
  have hkl := h.kl
  have hL := C.hL
  have hR := C.hR
  unfold ze7
  rw [zrf h]; simp only [Option.bind_some]
  rw [if_neg (by simp),grd_t (decide_eq_true ⟨by omega,by rw [h.mi.len]; omega⟩),Int.toNat_natCast,h.cop.2,h.mi.size,if_neg (by omega),zrd (by rw [h.mi.dl]; omega),h.mi.dl,hd]; simp only [Option.bind_some]
  rw [if_neg (by simp)]
  obtain ⟨e,m1,t,f1,f2,f3,f4⟩ := ztp h.mi h.di.ok h.dn (by omega)
  have hm1:MI C t (fol lv k C.sz) m1 := (h.mi.fd f2).arr f3.miss f3.log
  have hmst:∀ e,miss t e=false := fun e=>by rw [f3.miss]; exact h.ms e
  rcases f4 with ⟨rfl, -⟩ | ⟨-,f4⟩
  rotate_left
  · exact absurd (mi_nf hm1 hmst) f4
  rw [f1]; simp only [Option.bind_some]
  obtain ⟨k1,k2⟩ := f3.ok.flA (d:=k) f3.dn (by rw [MC.len]; omega) (hmst k)
  have hk1:k < m1.legs.length := by rw [hm1.len]; exact hkl
  rw [if_neg (by simp),grd_t (decide_eq_true ⟨by omega,by omega⟩),hm1.dev hkl,zq4 f3.ok (by omega) hkl,k1]; simp only [Option.bind_some]
  rw [if_neg (by simp),grd_t (decide_eq_true ⟨by omega,by omega⟩)]
  generalize flS t k=u at k2 ⊢
  have hat:∀ j,(m1.legs.set k ⟨xL k C.sz,(0:Int),(m1.legs.getD k mleg_x0).copied⟩).getD j mleg_x0=if j=k then ⟨xL k C.sz,(0:Int),(m1.legs.getD k mleg_x0).copied⟩ else m1.legs.getD j mleg_x0 := fun j=>znf hk1
  have hmsu:∀ e,miss u e=false := fun e=>by rw [k2.miss]; exact hmst e
  have hcu:∀ e b,e < C.ns.length→b < C.ns.getD e 0→cand u e b=if k=e then [now u e b] else cand t e b := fun e b he hb=>by
    rw [k2.cand e b he hb]
    split
    · rw [k2.now]
    · rfl
  have hnu:∀ e b,now u e b=now s e b := fun e b=>by rw [k2.now,f3.now]
  have hlogc:∀ b,b < 3→now u C.L b=now t C.L b∧cand u C.L b=cand t C.L b := fun b hb=>⟨k2.now _ _,by rw [hcu C.L b (by rw [MC.len]; omega) (by rw [MC.log]; exact hb),if_neg (by omega)]⟩
  have hall:∀ j,j < C.L → ∀ b,b < C.sz→cand u j b=[now u j b]∧now u j b=(o.T.getD b s0).value := fun j hj b hb=>by
    rw [hcu j b (by rw [MC.len]; omega) (by rw [MC.leg hj]; exact hb)]
    by_cases e:k=j
    · subst e
      rw [if_pos rfl]; exact ⟨rfl,by rw [hnu]; exact h.vk b hb⟩
    · have hlj := h.live j hj (fun z=>e z.symm)
      rw [if_neg e,f3.full j hj hlj hj b hb,hnu]
      exact ⟨rfl,(h.kn b hb).2 j hj hlj⟩
  have hSB:∀ r,SetB C t r→SetB C u r := fun r hr c hc=>hr c (by rw [(hlogc 1 (by decide)).2] at hc; exact hc)
  have hmi:MI C u (lvA C) { m1 with legs := m1.legs.set k ⟨xL k C.sz,(0:Int),(m1.legs.getD k mleg_x0).copied⟩ } := by
    refine ⟨by simp [hm1.len],fun i hi => ?_,hm1.size,hm1.region,hm1.hasLog,hm1.dl,?_,fun hl r hr hdr=>hSB r (hm1.d (show lv C.L=true by rw [hlg]; exact hl) r hr hdr)⟩
    · obtain ⟨g1,g2,g3⟩ := hm1.leg i hi
      unfold stM at g2 g3 ⊢
      rw [hat]
      by_cases e:i=k
      · subst e
        rw [if_pos rfl]
        exact ⟨rfl,.inr (fun z=>by cases z),.inl ⟨zmd hi,rfl,hmsu i⟩⟩
      · rw [if_neg e]
        have hl0 := hm1.live hi (h.live i hi e)
        exact ⟨g1,.inr (fun z=>by have h9:stM m1 i=2 := z; rw [hl0.1] at h9; cases h9),.inl ⟨zmd hi,hl0.1,hmsu i⟩⟩
    · rcases hm1.log with ⟨z1,z2,z3,g,z4,z5⟩ | ⟨z1,z2⟩
      · exact .inl ⟨by rw [← hlg]; exact z1,z2,hmsu _,g,z4,z5.arr (fun c hc=>by rw [(hlogc 0 (by decide)).2] at hc; exact hc) (fun c hc=>by rw [(hlogc 1 (by decide)).2] at hc; exact hc) (hlogc 1 (by decide)).1⟩
      · refine .inr ⟨by rw [← hlg]; exact z1,?_⟩
        rcases z2 with z2 | ⟨-,z2, -⟩
        · exact .inl z2
        · rw [hmst] at z2; cases z2
  obtain ⟨j0,hj0,hl0⟩ := h.di.ex
  have hval:∀ b,b < C.sz→(o.T.getD b s0).value ∈ (o.T.getD b s0).some := fun b hb=>by
    rw [← (h.kn b hb).2 j0 hj0 hl0]
    exact h.di.cnd b hb j0 hj0 hl0 _ (h.di.ok.now_cand (by rw [MC.len]; omega) (by rw [MC.leg hj0]; exact hb))
  refine ⟨_,u,rfl,⟨rfl,⟨h.oi.o1,h.oi.o2,h.oi.o3,h.oi.o4,fun z hz=>(by cases hz),by show 0≤K; omega,fun i hi hl => ?_,fun i _ hm=>(by rw [hmsu] at hm; cases hm),fun z hz => ?_,⟨hlost,by simp [lvA]⟩,fun _ _=>rfl,hmsu⟩,⟨k2.ok,h.di.tl,⟨j0,hj0,zmd hj0⟩,fun i _ _=>hmsu i,fun hl=>by rw [← zpo]; exact hl,fun b hb j hj _ c hc => ?_,fun hl c hc => ?_,fun hl r hr => .inr ⟨fun b=>(o.T.getD b s0).value,fun b hb _ j hj _ c hc => ?_⟩⟩,hmi,fun b hb _=>⟨(h.kn b hb).1,fun j hj _=>(hall j hj b hb).2⟩,h.sm,k2.dn⟩,mi_nf hmi hmsu,by rw [k2.fuse,f3.fuse,h.fz],hmsu⟩
  · rcases Nat.lt_or_ge i C.L with z | z
    · rw [zmd z] at hl; cases hl
    · have:i=C.L := by omega
      subst this
      exact .inr (.inr ⟨rfl,by rw [← zpo]; exact hl⟩)
  · have hz':z ∈ o.Lost := hz
    rw [hlost] at hz'; cases hz'
  · rw [(hall j hj b hb).1,List.mem_singleton] at hc
    rw [hc,(hall j hj b hb).2]; exact hval b hb
  · rw [(hlogc 0 (by decide)).2,(f3.log 0 (by decide)).2] at hc
    exact h.di.head (by rw [hlg]; exact hl) c hc
  · rw [(hall j hj b hb).1,List.mem_singleton] at hc
    rw [hc]; exact (hall j hj b hb).2
theorem zxt (hl:m.legs.length≤6) (h:∀ i,i < m.legs.length→stM m i≠2):∀ (N i:Nat),m.legs.length - i < N→zfc m N i []=some []
  | 0,_,h=>absurd h (by omega)
  | N + 1,i,hN=>by
    have hun:zfc m (N + 1) i []=zg2 m (zfc m N) i [] := rfl
    rw [hun]
    unfold zg2
    by_cases hlt:i < m.legs.length
    · rw [if_pos (by omega),if_neg (h i hlt)]
      exact zxt hl h N (i + 1) (by omega)
    · rw [if_neg (by omega)]
theorem zzq (h:MI C s (lvA C) m):zih m s=some [] := by
  have hF := zbp
  have hl6 := h.l6
  unfold zih
  rw [zxt hl6 (fun i hi hs=>by
    have hi':i < C.L := by rw [← h.len]; exact hi
    rw [(h.live hi' (zmd hi')).1] at hs; cases hs) FUEL 0 (by omega)]; simp only [Option.bind_some]
  rw [if_neg]
  rintro ⟨z1,z2⟩
  rcases h.log with ⟨-,q, -⟩ | ⟨q, -⟩
  · rw [q] at z2; cases z2
  · rw [h.hasLog, ← zpo,q] at z1; cases z1
theorem z2x {st:List Int} (h:UP C K (lvA C) s { o with Stale := [] } m (fun _=>False)) (hx:o.X=some m) (hnf:NF m) (hK:K≤60000) (hf:s.fuse=0) (hms:∀ e,miss s e=false) :
    ∃ o' m' t,zb5 o s=some (0,true,o',t)∧UP C (K + 12) (lvA C) t { o' with Stale := [] } m' (fun _=>False)∧NF m' := by
  have hF := zbp
  obtain ⟨N,hN⟩:∃ N,FUEL=N + 1 := ⟨FUEL - 1,by omega⟩
  obtain ⟨e,m',t,w1,w0,w2⟩ := zuh (p:=fun _=>False) h hnf (by omega)
  rcases w2 with ⟨rfl,g1,g2,g3,g4,g5⟩ | ⟨-,g1,g2, -⟩ | ⟨-,g1, -⟩
  · refine ⟨{ o with X := some m',T := ze1 o.T },m',t,?_,⟨rfl,g2.oi.set rfl rfl rfl rfl rfl rfl,zxf g2.di (fun a ha=>g2.kn a ha (fun x=>x)) g5,g2.mi,fun a ha _ => ?_,fun a ha => ?_,g2.dn⟩,g1⟩
    · unfold zb5
      rw [hx]; simp only [Option.elim_some]
      rw [w1]; simp only [Option.bind_some]
      rw [hN]
      have hun:zbo (N + 1) { o with X := some m' } t 0 0=zbx (zbo N) { o with X := some m' } t 0 0 := rfl
      rw [hun]
      unfold zbx
      rw [if_neg (fun x=>absurd x.2 (by decide)),zd6,if_pos (by simp)]
      rfl
    · show ((ze1 o.T).getD a s0).known=true ∧ ∀ j,j < C.L→(lvA C) j=true→now t j a=((ze1 o.T).getD a s0).value
      obtain ⟨k1,k2⟩ := g2.kn a ha (fun x=>x)
      rw [zpn g2.di.tl ha]
      unfold zf6
      rw [if_pos k1]
      exact ⟨k1,k2⟩
    · show ((ze1 o.T).getD a s0).some.length≤_
      rw [zpn g2.di.tl ha]
      unfold zf6
      rw [if_pos (g2.kn a ha (fun x=>x)).1]; simp
  · exact absurd (mi_nf g2.mi (fun e=>by rw [w0.miss]; exact hms e)) g1
  · exact absurd hf g1
theorem z2y (h:FU C K k c lv s o m) (hK:K≤60000) (S:volumegroupmake_Step) (hS:S.Kind < 3):∃ o' m' t,zeu o S s=some (true,o',t)∧FU C (K + 12) k c lv t o' m' ∧ o'.Lost=o.Lost := by
  obtain ⟨o',m',t,h1,h2⟩ := z34 h hK S hS
  exact ⟨o',m',t,h1,h2,h2.oi.ll.1.trans h.oi.ll.1.symm⟩
theorem zst {leg part:UInt8} {l:List volumegroupmake_Step} {a0:Option ArrS} {W:List UInt64} {p:Nat} (hp:(part % 5).toNat=p) (hp5:p < 5) (hkk:((leg.toNat:Nat):Int).tmod ((C.L:Nat):Int)=((k:Nat):Int)):∀ (N i:Nat) (o:OwnS) (m:MirS) (s:ArrS),8 - i < N→i≤8→FU C (40000 + 100 * i) k (min C.sz (i * p)) lv s o m →
    ∃ o' m' t c',zdc leg part l (a0,C.L,C.sz,C.rg,C.lg,W) N s o i=some (.inl (o',t))∧FU C 41000 k c' lv t o' m' ∧ o'.Lost=o.Lost
  | 0,_,_,_,_,h,_,_=>absurd h (by omega)
  | N + 1,i,o,m,s,h,hi,hu=>by
    have hun:zdc leg part l (a0,C.L,C.sz,C.rg,C.lg,W) (N + 1) s o i=zek leg part l (a0,C.L,C.sz,C.rg,C.lg,W) (zdc leg part l (a0,C.L,C.sz,C.rg,C.lg,W) N) s o i := rfl
    rw [hun]
    unfold zek
    by_cases hlt:((i:Nat):Int) < ((l.length:Nat):Int)∧((i:Nat):Int) < (8:Int)
    · rw [if_pos hlt,hu.x]; simp only [Option.elim_some]
      rw [hkk,hp]
      obtain ⟨m1,t,f1,f2⟩ := z1j (n:=p) hu (by omega) (by omega)
      rw [f1]; simp only [Option.bind_some]
      have hmul:(i + 1) * p=i * p + p := by rw [Nat.add_mul,Nat.one_mul]
      have hc:min C.sz (min C.sz (i * p) + p)=min C.sz ((i + 1) * p) := by rw [hmul]; omega
      have hcI:((min C.sz (min C.sz (i * p) + p):Nat):Int)=min ((C.sz:Nat):Int) (IntKind.i64.wrap (((i + 1:Nat):Int) * ((p:Nat):Int))) := by
        have e1:(((i + 1:Nat):Int) * ((p:Nat):Int))=(((i + 1) * p:Nat):Int) := (Int.natCast_mul _ _).symm
        have e2:(i + 1) * p≤8 * 4 := Nat.mul_le_mul (by omega) (by omega)
        rw [hc,e1,ziu (by omega) (by omega)]; omega
      rw [if_neg (by
        rintro (z | z)
        · exact z rfl
        · exact z hcI)]
      rw [hc] at f2
      by_cases hk3:(l.getD i ⟨0,0,0,0⟩).Kind < 3
      · obtain ⟨o2,m2,t2,q1,q2,q3⟩ := z2y f2 (by omega) (l.getD i ⟨0,0,0,0⟩) hk3
        rw [if_pos hk3,q1]; simp only [Option.bind_some]
        rw [if_neg (by simp)]
        obtain ⟨o3,m3,t3,c3,v1,v2,v3⟩ := zst hp hp5 hkk N (i + 1) o2 m2 t2 (by omega) (by omega) (q2.mono (by omega))
        exact ⟨o3,m3,t3,c3,v1,v2,v3.trans q3⟩
      · rw [if_neg hk3]
        obtain ⟨o3,m3,t3,c3,v1,v2,v3⟩ := zst hp hp5 hkk N (i + 1) _ m1 t (by omega) (by omega) (f2.mono (by omega))
        exact ⟨o3,m3,t3,c3,v1,v2,v3⟩
    · rw [if_neg hlt]
      exact ⟨o,m,s,_,rfl,hu.mono (by omega),rfl⟩
theorem zsu {leg:UInt8} {a0:Option ArrS} {W:List UInt64} (hk:k < C.L) (hkk:((leg.toNat:Nat):Int).tmod ((C.L:Nat):Int)=((k:Nat):Int)):∀ (N i:Nat) (o:OwnS) (lv:LV) (s:ArrS),C.L - i < N→i≤C.L→UP C K lv s o m (fun _=>False)→lv k=true→lv.lost.length≤i →
    ∃ o' lv' t,zdd leg (a0,C.L,C.sz,C.rg,C.lg,W) N s o i=some (.inl (o',t))∧UP C K lv' t o' m (fun _=>False)
  | 0,_,_,_,_,h,_,_,_,_=>absurd h (by omega)
  | N + 1,i,o,lv,s,h,hi,hu,hlk,hll=>by
    have hL := C.hL
    have hun:zdd leg (a0,C.L,C.sz,C.rg,C.lg,W) (N + 1) s o i=zel leg (a0,C.L,C.sz,C.rg,C.lg,W) (zdd leg (a0,C.L,C.sz,C.rg,C.lg,W) N) s o i := rfl
    rw [hun]
    unfold zel
    by_cases hlt:i < C.L
    · have hltI:((i:Nat):Int) < ((C.L:Nat):Int) := by omega
      rw [if_pos hltI,hkk]
      by_cases hik:i=k
      · rw [if_neg (by omega),grd_t (zdy (by omega))]
        exact zsu hk hkk N (i + 1) o lv s (by omega) (by omega) hu hlk (by omega)
      · rw [if_pos (by omega)]
        obtain ⟨l',o2,s2,e1,e2, -,e4, -, -⟩ := olose hu (k:=i) (by omega) ⟨k,hk,hlk,fun z=>hik z.symm⟩ (fun z=>by omega) (by omega)
        rw [e1]; simp only [Option.bind_some]
        rw [if_neg (by simp),grd_t (zdy (by omega))]
        exact zsu hk hkk N (i + 1) o2 _ s2 (by omega) (by omega) e2 (without_t.2 ⟨hlk,fun z=>hik z.symm⟩) (by show l'.length≤i + 1; omega)
    · have hgeI:¬ ((i:Nat):Int) < ((C.L:Nat):Int) := by omega
      rw [if_neg hgeI]
      exact ⟨o,lv,s,rfl,hu⟩
end
theorem mirrorFills (n_0:UInt8) (leg:UInt8) (part:UInt8) (l:List volumegroupmake_Step) (m:List volumegroupmake_Step) (junk:UInt64):zhe n_0 leg part l m junk=some true := by
  unfold zhe
  rw [z1d]; simp only [Option.bind_some]
  by_cases hl:l.length≤24
  · rw [if_neg (by simpa using hl),z1d]; simp only [Option.bind_some]
    by_cases hm:m.length≤24
    · rw [if_neg (by simpa using hm)]
      obtain ⟨a,b1,b2⟩ := z2p n_0
      rw [b1]; simp only [Option.bind_some,Option.elim_some]
      generalize CM n_0=C at b2 ⊢
      have hL := C.hL
      have hs := C.hs
      have hF := zbp
      obtain ⟨k,hkk,hk⟩:∃ k:Nat,((leg.toNat:Nat):Int).tmod ((C.L:Nat):Int)=((k:Nat):Int)∧k < C.L := ⟨leg.toNat % C.L,(Int.ofNat_tmod _ _).symm,Nat.mod_lt _ (by omega)⟩
      rw [hkk,grd_t (decide_eq_true (by omega)),z2t b2.wl]; simp only [Option.bind_some]
      rw [zxj (n:=C.sz) (by omega)]; simp only [Option.bind_some]
      have hlen:(zgb C.sz junk).length=C.sz := zlv
      obtain ⟨c1,c2⟩ := z35 (im:=zgb C.sz junk) b2.ok (by rw [MC.len]; omega:k < C.ns.length) (by rw [hlen,MC.leg hk])
      rw [grd_t (zd5 (by have := b2.ok.wr; omega)),c1,if_neg (by simp)]
      generalize ldS a ((k:Nat):Int) (zgb C.sz junk)=t at c2 ⊢
      obtain ⟨o',m',g1,g2,g3,g4⟩ := z36 b2 hk c2
      obtain ⟨lv',o1,m1,s1,p1,p2,p3,p4,p5,p6⟩ := oplay (k:=0) (lose:=(-1:Int)) hl (by omega) (fun z=>by omega) (by simp [lvK]) (fun z=>by omega) g1 g2 g3
      obtain rfl := p5 (by omega)
      have e0:(((0:Nat)):Int)=0 := rfl
      rw [e0] at p1
      rw [p1]; simp only [Option.bind_some]
      rw [if_neg (by simp),p2.x]; simp only [Option.elim_some]
      have hfu := z2u p2 hk p4 p6
      rw [z1l hfu (by omega)]; simp only [Option.bind_some]
      rw [if_neg (by simp)]
      have hp5:(part % 5).toNat < 5 := u8mod (by decide)
      obtain ⟨p,hp⟩:∃ p,(part % 5).toNat=p := ⟨_,rfl⟩
      have heo:(⟨o1.Open_1,o1.Open_2,o1.Open_3,o1.Open_4,some m1,o1.T,o1.Stale,[]⟩:OwnS) = { o1 with Lost := [] } := by
        cases o1; have := p2.x; simp only at this; subst this; rfl
      rw [heo]
      obtain ⟨o2,m2,s2,c',v1,v2,v3⟩ := zst (C:=C) (l:=m) (a0:=some a) (W:=zgb C.sz 5) (lv:=lvK0 C k) (k:=k) hp (by omega) hkk FUEL 0 { o1 with Lost := [] } m1 s1 (by omega) (by omega) (by
        rw [show min C.sz (0 * p)=0 by rw [Nat.zero_mul]; omega]; exact hfu)
      have v3':o2.Lost=[] := v3
      rw [v1,zd6,v2.x]; simp only [Option.elim_some]
      obtain ⟨m3,s3,f1,f2⟩ := z1j (n:=C.sz) v2 (by omega) (by omega)
      rw [f1]; simp only [Option.bind_some]
      rw [show min C.sz (c' + C.sz)=C.sz by omega] at f2 ⊢
      obtain ⟨m4,s4,r1,r2,r3⟩ := z2v f2 (by omega)
      rw [r1]; simp only [Option.bind_some]
      rw [if_neg (by
        rintro (((z | z) | z) | z) <;> exact z rfl)]
      have hlg:(lvK0 C k) C.L=(lvA C) C.L := by
        show (if C.L=k then false else (lvA C) C.L)=_
        rw [if_neg (by omega)]
      obtain ⟨m5,s5,q1,q2,q3,q4,q5⟩ := z2w r2 (by omega) r3 v3' hlg
      rw [q1]; simp only [Option.bind_some]
      rw [if_neg (by simp),zzq q2.mi]; simp only [Option.bind_some]
      rw [if_neg (by simp)]
      obtain ⟨o6,m6,s6,w1,w2,w3⟩ := z2x (st:=o2.Stale) (o := { o2 with X := some m5 }) q2 rfl q3 (by omega) q4 q5
      rw [w1]; simp only [Option.bind_some]
      rw [if_neg (by simp)]
      obtain ⟨o7,lv7,s7,x1,x2⟩ := zsu (C:=C) (a0:=some a) (W:=zgb C.sz 5) (m:=m6) hk hkk FUEL 0 { o6 with Stale := [] } (lvA C) s6 (by omega) (by omega) w2 (zmd hk) (by simp [lvA])
      rw [x1,zd6]
      obtain ⟨o8,y1⟩ := oall_w (q:=false) x2 w3 (by omega)
      rw [y1]; simp only [Option.bind_some]
      rw [if_pos trivial,zui]; rfl
    · rw [if_pos (by simpa using hm),zui]; rfl
  · rw [if_pos (by simpa using hl),zui]; rfl
end Go.Proofs
