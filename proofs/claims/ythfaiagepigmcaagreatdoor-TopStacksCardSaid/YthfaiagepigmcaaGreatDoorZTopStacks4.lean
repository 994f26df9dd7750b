/- TopStacks, part 4 of the proof: PUp, PTs2, PTs3, PTs4, PTs5, PTs6, PTs7, PTs8, CTs1, PTs9, CTs2, PTs10, PTs11, LStr, PTs12, CTs3, PTs13, CTs4, PTs14. -/
import Derived.WalkKit
import Derived.Orders
import Derived.RangeFuncLeaves
import Derived.RangeFuncCalls
import Derived.TacticsIn
import Derived.Handy
import Derived.OrdersHeld
import Derived.OrdersIn
import Derived.Below
import Derived.OpenShut
import Derived.Deep.Slices
import Derived.Scope
import Derived.KernelRfl
import Derived.RangeFuncRecord
import Derived.ChangeKeysEq
import Derived.Laws.BytesArg
import Derived.Lib.Bytealg
import Derived.Lib.AppendStr
import Derived.Lib.Builder
import Derived.Lib.UnsafeStr
import Derived.ProofKit
import Derived.ShutString
import Derived.ChangeOld
import Derived.Stop.Joined
import Derived.LaidLaws
import Derived.LaidHandle
import Derived.MakeChecks
import Derived.SevenTiedAt
import Derived.Test.YthfaiagepigmcaaGreatDoorChecked
import Derived.Test.YthfaiagepigmcaaGreatDoorRows
import Derived.Test.YthfaiagepigmcaaGreatDoorZTopStacks3
namespace Go.Proofs
open Go.VG
structure ArrOk (ns:List Nat) (K:Nat) (s:ArrS):Prop where
  sz:InSz ns s
  wr:s.writes≤K
  coh:Coh s
  bad:s.bad=[]
section
variable {ns:List Nat} {K d a:Nat} {s:ArrS} {v:UInt64}
theorem ArrOk.mono {K':Nat} (h:ArrOk ns K s) (hK:K≤K'):ArrOk ns K' s := { h with wr := Nat.le_trans h.wr hK }
theorem ArrOk.disk (h:ArrOk ns K s) (hd:d < ns.length):d < s.drv.length := by rw [h.sz.cnt]; exact hd
theorem ArrOk.sect (h:ArrOk ns K s) (hd:d < ns.length) (ha:a < ns.getD d 0):a < s.size d := by rw [h.sz.size d hd]; exact ha
theorem ArrOk.chk (h:ArrOk ns K s) (hdn:s.down=false) (hd:d < ns.length) (ha:a < ns.getD d 0):cPow s=0∧cLoc s d=0∧cPla s d a=0∧cPre s d=(if miss s d then 6 else 0)∧cWho s d a=0 := by
  have hdd := h.disk hd
  have haa := h.sect hd ha
  refine ⟨by simp [cPow,hdn],?_,?_,?_,by simp [cWho,isBad,h.bad,lookM]⟩
  · rw [cLoc,if_pos (show inR s (d:Int) from ⟨by omega,by omega⟩)]
  · rw [cPla,zhq hdd,if_pos (by omega)]
  · simp only [cPre,missI,Int.toNat_natCast,miss]; by_cases hh:(s.drv.getD d d0).miss=true <;> simp
theorem ArrOk.rdA (h:ArrOk ns K s) (hdn:s.down=false) (hd:d < ns.length) (ha:a < ns.getD d 0) (hm:miss s d=false):rdV s d a=now s d a∧rdC s d a=0 := by
  obtain ⟨h1,h2,h3,h4,h5⟩ := h.chk hdn hd ha
  rw [hm] at h4
  have hC:rdC s d a=0 := by simp [rdC,fz,h1,h2,h3,h4,h5]
  exact ⟨by rw [rdV,if_pos hC]; rfl,hC⟩
structure Wrote (ns:List Nat) (K:Nat) (s:ArrS) (d a:Nat) (v:UInt64) (t:ArrS):Prop where
  ok:ArrOk ns (K + 1) t
  dn:t.down=false
  fuse:t.fuse=s.fuse - 1
  miss:∀ e,Go.Proofs.miss t e=Go.Proofs.miss s e
  now:∀ e b,Go.Proofs.now t e b=if d=e∧a=b then v else Go.Proofs.now s e b
  cand:∀ e b,Go.Proofs.cand t e b=if d=e∧a=b then Go.Proofs.cand s e b ++ [v] else Go.Proofs.cand s e b
structure Fell (ns:List Nat) (K:Nat) (s t:ArrS):Prop where
  ok:ArrOk ns K t
  dn:t.down=true
  miss:∀ e,Go.Proofs.miss t e=Go.Proofs.miss s e
  now:∀ e b,Go.Proofs.now t e b=Go.Proofs.now s e b
  cand:∀ e b,Go.Proofs.cand t e b=Go.Proofs.cand s e b
theorem ArrOk.wrA (h:ArrOk ns K s) (hK:K≤1000000) (hdn:s.down=false) (hd:d < ns.length) (ha:a < ns.getD d 0) (hm:miss s d=false) :
    (s.fuse≠1∧wrR s d a=0∧Wrote ns K s d a v (wrS s d a v))∨(s.fuse=1∧wrR s d a=5∧Fell ns K s (wrS s d a v)) := by
  obtain ⟨h1,h2,h3,h4,h5⟩ := h.chk hdn hd ha
  rw [hm] at h4
  have hdd := h.disk hd
  have haa := h.sect hd ha
  have hC:wrC s d a=0 := by simp [wrC,fz,h1,h2,h3,h4]
  have hC':¬ wrC s d a≠0 := fun x=>x hC
  by_cases hf:s.fuse=1
  · refine .inr ⟨hf,by rw [wrR,if_neg hC',if_pos hf],?_⟩
    rw [wrS,if_neg hC',if_pos hf]
    exact ⟨⟨⟨h.sz.cnt,h.sz.size,h.sz.wr⟩,h.wr,⟨h.coh.len,h.coh.last,h.coh.log⟩,h.bad⟩,rfl,fun _=>rfl,fun _ _=>rfl,fun _ _=>rfl⟩
  · refine .inl ⟨hf,by rw [wrR,if_neg hC',if_neg hf],?_⟩
    rw [wrS,if_neg hC',if_neg hf]
    have hbad:delM s.bad ((d:Int),(a:Int))=[] := by rw [h.bad]; rfl
    have hs':({ s with drv := zdc s (d:Int).toNat (a:Int).toNat v,bad := delM s.bad ((d:Int),(a:Int)),log := s.log ++ [⟨(d:Int).toNat,(a:Int).toNat,v⟩],fuse := s.fuse - 1,writes := s.writes + 1 } : ArrS) = { wr1 s d a v with bad := [],fuse := s.fuse - 1 } := by
      simp only [wr1,Int.toNat_natCast,hbad]
    rw [hs']
    have hcoh := h.coh.wr1 (v:=v) hdd haa
    refine ⟨⟨⟨by show (wr1 s _ _ _).drv.length=_; rw [zpx]; exact h.sz.cnt,fun e he=>by show (wr1 s _ _ _).size e=_; rw [zn4 hdd]; exact h.sz.size e he,by show s.writes + 1≤_; have := h.wr; omega⟩,by show s.writes + 1≤_; have := h.wr; omega,⟨hcoh.len,hcoh.last,hcoh.log⟩,rfl⟩,hdn,rfl,fun e => ?_,fun e b=>zt2 hdd haa,fun e b => ?_⟩
    · show (((zdc s d a v).getD e d0)).miss=_
      unfold zdc Go.Proofs.miss; rw [zeu hdd]; split
      · rename_i x; subst x; rfl
      · rfl
    · show dur (wr1 s d a v) e b::pend (wr1 s d a v) e b=_
      rw [zt3 hdd,zsc]; split <;> rfl
structure Flushed1 (ns:List Nat) (K:Nat) (s:ArrS) (d:Nat) (t:ArrS):Prop where
  ok:ArrOk ns K t
  dn:t.down=false
  fuse:t.fuse=s.fuse
  miss:∀ e,Go.Proofs.miss t e=Go.Proofs.miss s e
  now:∀ e b,Go.Proofs.now t e b=Go.Proofs.now s e b
  cand:∀ e b,e < ns.length→b < ns.getD e 0→Go.Proofs.cand t e b=if d=e then [Go.Proofs.now s e b] else Go.Proofs.cand s e b
theorem ArrOk.flA (h:ArrOk ns K s) (hdn:s.down=false) (hd:d < ns.length) (hm:miss s d=false):flC s d=0∧Flushed1 ns K s d (flS s d) := by
  have hdd := h.disk hd
  obtain ⟨h1,h2⟩ := flushed (ds:=[d]) h.coh hdn (fun e he=>by rw [List.mem_singleton.1 he]; exact hdd)
  have hany:[d].any (fun d=>Go.Proofs.miss s d)=false := by simp [hm]
  rw [hany] at h2
  have h3:flC s d=0 := by
    have h4:(if flC s d=0 then (0:Int) else flC s d)=0 := h2
    by_cases h5:flC s d=0
    · exact h5
    · rwa [if_neg h5] at h4
  have h6:flsS s [d]=flS s d := rfl
  rw [h6] at h1
  refine ⟨h3,⟨⟨h1.inSz h.sz,by rw [h1.wr]; exact h.wr,h1.coh,by rw [h1.bad]; exact h.bad⟩,by rw [h1.down]; exact hdn,h1.fuse,h1.miss,fun e b=>h1.nowAt,fun e b he hb => ?_⟩⟩
  show Go.Proofs.dur _ _ _::Go.Proofs.pend _ _ _=_
  rw [h1.dur _ _ (h.sect he hb),h1.pend]
  by_cases e1:d=e
  · subst e1; rw [if_pos ⟨List.mem_singleton.2 rfl,hm⟩,if_pos ⟨List.mem_singleton.2 rfl,hm⟩,if_pos rfl]
  · rw [if_neg (fun x=>e1 (List.mem_singleton.1 x.1).symm),if_neg (fun x=>e1 (List.mem_singleton.1 x.1).symm),if_neg e1]
structure Restarted (ns:List Nat) (K:Nat) (s t:ArrS):Prop where
  ok:ArrOk ns K t
  dn:t.down=false
  fuse:t.fuse=0
  miss:∀ e,Go.Proofs.miss t e=Go.Proofs.miss s e
  now:∀ e b,e < ns.length→b < ns.getD e 0→Go.Proofs.now t e b ∈ Go.Proofs.cand s e b
  cand:∀ e b,Go.Proofs.cand t e b=[Go.Proofs.now t e b]
  unfl:t.log=[]
theorem ArrOk.rs (h:ArrOk ns K s) (ks:List Bool):Restarted ns K s (rsS s ks) where
  ok := ⟨⟨by rw [drv_rs]; exact h.sz.cnt,fun d hd=>by rw [z0t h.coh]; exact h.sz.size d hd,h.sz.wr⟩,h.wr,h.coh.rs,h.bad⟩
  dn := rfl
  fuse := rfl
  miss e := by unfold Go.Proofs.miss; rw [z0u]
  now e b he hb := by rw [zsf]; exact dur_rs h.coh (h.disk he) (h.sect he hb)
  cand e b := by
    show [dur (rsS s ks) e b]=_
    rw [zsf]
  unfl := rfl
theorem ArrOk.fuse (h:ArrOk ns K s) {m:Nat} : ArrOk ns K { s with fuse := m } := ⟨⟨h.sz.cnt,h.sz.size,h.sz.wr⟩,h.wr,⟨h.coh.len,h.coh.last,h.coh.log⟩,h.bad⟩
end
end Go.Proofs
namespace Go.Proofs.Ts
open Go.VG
def TS.rdS (t:TS) (c:Nat) (ok:Bool):TS := if ok then t.use c else (t.use c).down
def TS.wrS (t:TS) (c i a:Nat) (v:UInt64) (ok:Bool):TS := if ok then (t.put i a v).use c else { ((t.put i a v).use c).down with w := t.w }
structure BaseOk (P:Program) (B:TS→HP) (L dep rc wc:Nat) (sz:Nat→Nat) (val:Nat→IfH):Prop where
  depb:dep≤60
  szb:∀ i,i < L→sz i≤100000
  na : ∀ i, i < L → ∀ n, 100 ≤ n → ∀ w, (nilAhead n (val i).t (val i).u "Write").run P w = .ok (some false) w
  size : ∀ {W : World} {i : Nat} {t : TS}, i < L → t.dn = false → IOk P W dep (val i) "Size" [] [B t] (fun _ : Unit => .int .i64 (sz i : Int)) (fun _ => True) (fun _ F => B t :: F)
  rd : ∀ {W : World} {i a : Nat} {t : TS}, i < L → a < sz i → t.dn = false → rc ≤ t.k → IOk P W dep (val i) "Read" [.int .i64 (a : Int)] [B t] (fun ok : Bool => .tuple #[.int .u64 ((if ok then now t i a else 0 : UInt64).toNat : Int), .int .i64 (if ok then 0 else 5)]) (fun ok => ok = false → t.safe = false) (fun ok F => B (t.rdS rc ok) :: F)
  wr : ∀ {W : World} {i a : Nat} {v : UInt64} {t : TS}, i < L → a < sz i → t.dn = false → wc ≤ t.k → IOk P W dep (val i) "Write" [.int .i64 (a : Int), .int .u64 (v.toNat : Int)] [B t] (fun ok : Bool => .int .i64 (if ok then 0 else 5)) (fun ok => ok = false → t.safe = false) (fun ok F => B (t.wrS wc i a v ok) :: F)
  fl : ∀ {W : World} {i : Nat} {t : TS}, i < L → t.dn = false → IOk P W dep (val i) "Flush" [] [B t] (fun _ : Unit => .int .i64 0) (fun _ => True) (fun _ F => B (t.fls i) :: F)
  wb:∀ {t:TS} {R:List HP} (h:PH),stars (B t::R) h→t.w≤500000
  nc:∀ {t:TS} {R:List HP} (h:PH),stars (B t::R) h→t.dn=false → ∀ i a,i < L→a < sz i→now t i a ∈ cand t i a
  zv:∀ {t:TS} {R:List HP} (h:PH),stars (B t::R) h→t.dn=false→t.z=true → ∀ i a,i < L→a < sz i→now t i a=0
structure Env (ns:List Nat) (dn safe:Bool) (k:Nat) (s:ArrS):Prop where
  kb:k≤500000
  ok:ArrOk ns (500000 - k) s
  dn:s.down=dn
  fu:safe=true→s.fuse=0
  ms:∀ e,miss s e=false
def Kept (s s':ArrS) (d a:Nat):Prop := Go.Proofs.now s' d a=Go.Proofs.now s d a ∧ ∀ c,c ∈ Go.Proofs.cand s' d a→c ∈ Go.Proofs.cand s d a
theorem Kept.refl {s:ArrS} {d a:Nat} : Kept s s d a := ⟨rfl,fun _ h=>h⟩
theorem Kept.trans {s s' s'':ArrS} {d a:Nat} (h:Kept s s' d a) (g:Kept s' s'' d a):Kept s s'' d a := ⟨g.1.trans h.1,fun c hc=>h.2 c (g.2 c hc)⟩
def Out (fp:Nat→Nat→Prop) (s s':ArrS):Prop := s.writes≤s'.writes ∧ ∀ d a, ¬ fp d a→Kept s s' d a
def Inn (fp:Nat→Nat→Prop) (s s':ArrS):Prop := s.writes≤s'.writes ∧ ∀ d a,fp d a→Kept s s' d a
theorem Out.refl {fp:Nat→Nat→Prop} {s:ArrS} : Out fp s s := ⟨Nat.le_refl _,fun _ _ _=>Kept.refl⟩
theorem Out.trans {fp:Nat→Nat→Prop} {s s' s'':ArrS} (h:Out fp s s') (g:Out fp s' s''):Out fp s s'' := ⟨Nat.le_trans h.1 g.1,fun d a n=>(h.2 d a n).trans (g.2 d a n)⟩
theorem Out.mono {fp fp':Nat→Nat→Prop} {s s':ArrS} (h:Out fp s s') (hf:∀ d a,fp d a→fp' d a):Out fp' s s' := ⟨h.1,fun d a n=>h.2 d a fun x=>n (hf d a x)⟩
theorem Out.inn {fp fp':Nat→Nat→Prop} {s s':ArrS} (h:Out fp s s') (hd:∀ d a,fp' d a → ¬ fp d a):Inn fp' s s' := ⟨h.1,fun d a x=>h.2 d a (hd d a x)⟩
theorem Inn.mono {fp fp':Nat→Nat→Prop} {s s':ArrS} (h:Inn fp s s') (hf:∀ d a,fp' d a→fp d a):Inn fp' s s' := ⟨h.1,fun d a x=>h.2 d a (hf d a x)⟩
def ZZ (s:ArrS):Prop := ∀ d a,Go.Proofs.now s d a=0 ∧ ∀ c,c ∈ Go.Proofs.cand s d a→c=0
structure Kid where
  sz:Nat
  zk:Bool
  val:IfH
  H:ArrS→(Nat→UInt64)→(Nat→List UInt64)→HP
  Cr:ArrS→(Nat→List UInt64)→Prop
  fp:Nat→Nat→Prop
def nput (nw:Nat→UInt64) (a:Nat) (v:UInt64):Nat→UInt64 := fun b=>if a=b then v else nw b
def cput (cd:Nat→List UInt64) (a:Nat) (v:UInt64):Nat→List UInt64 := fun b=>if a=b then cd b ++ [v] else cd b
structure Op1 (ns:List Nat) (c:Nat) (fp:Nat→Nat→Prop) (s:ArrS) (k:Nat) (safe ok:Bool) (s':ArrS):Prop where
  env:Env ns (!ok) safe (k - c) s'
  out:Out fp s s'
  sf:ok=false→safe=false
def HO (ok:Bool) (A:HP):HP := if ok then A else star []
structure KidOk (P:Program) (b:Nat) (ns:List Nat) (dep rc wc:Nat) (K:Kid):Prop where
  depb:dep≤60
  szb:K.sz≤100000
  na : ∀ n, 100 ≤ n → ∀ w, (nilAhead n K.val.t K.val.u "Write").run P w = .ok (some false) w
  size : ∀ {W : World} {s : ArrS} {nw : Nat → UInt64} {cd : Nat → List UInt64}, IOk P W dep K.val "Size" [] [Arr b s, K.H s nw cd] (fun _ : Unit => .int .i64 (K.sz : Int)) (fun _ => True) (fun _ F => Arr b s :: K.H s nw cd :: F)
  rd : ∀ {W : World} {s : ArrS} {nw : Nat → UInt64} {cd : Nat → List UInt64} {k a : Nat} {safe : Bool}, Env ns false safe k s → a < K.sz → rc ≤ k → IOk P W dep K.val "Read" [.int .i64 (a : Int)] [Arr b s, K.H s nw cd] (fun x : Bool × ArrS => .tuple #[.int .u64 ((if x.1 then nw a else 0 : UInt64).toNat : Int), .int .i64 (if x.1 then 0 else 5)]) (fun x => Op1 ns rc K.fp s k safe x.1 x.2 ∧ (x.1 = false → K.Cr x.2 cd) ∧ (K.zk = true → ZZ s → ZZ x.2)) (fun x F => Arr b x.2 :: HO x.1 (K.H x.2 nw cd) :: F)
  wr : ∀ {W : World} {s : ArrS} {nw : Nat → UInt64} {cd : Nat → List UInt64} {k a : Nat} {v : UInt64} {safe : Bool}, Env ns false safe k s → a < K.sz → wc ≤ k → IOk P W dep K.val "Write" [.int .i64 (a : Int), .int .u64 (v.toNat : Int)] [Arr b s, K.H s nw cd] (fun x : Bool × ArrS => .int .i64 (if x.1 then 0 else 5)) (fun x => Op1 ns wc K.fp s k safe x.1 x.2 ∧ (x.1 = false → K.Cr x.2 (cput cd a v)) ∧ (K.zk = true → ZZ s → v = 0 → ZZ x.2) ∧ (x.1 = true → s.writes + 1 ≤ x.2.writes)) (fun x F => Arr b x.2 :: HO x.1 (K.H x.2 (nput nw a v) (cput cd a v)) :: F)
  fl : ∀ {W : World} {s : ArrS} {nw : Nat → UInt64} {cd : Nat → List UInt64} {k : Nat} {safe : Bool}, Env ns false safe k s → IOk P W dep K.val "Flush" [] [Arr b s, K.H s nw cd] (fun _ : ArrS => .int .i64 0) (fun s' => Op1 ns 0 K.fp s k safe true s' ∧ (K.zk = true → ZZ s → ZZ s')) (fun s' F => Arr b s' :: K.H s' nw (fun a => [nw a]) :: F)
  fr:∀ {s s':ArrS} {nw:Nat→UInt64} {cd:Nat→List UInt64} {R:List HP},Inn K.fp s s' → Ent (K.H s nw cd::R) (K.H s' nw cd::R)
  frC:∀ {s s':ArrS} {cd:Nat→List UInt64},Inn K.fp s s' → K.Cr s cd→K.Cr s' cd
  cr:∀ {s:ArrS} {nw:Nat→UInt64} {cd:Nat→List UInt64} {R:List HP} (h:PH),stars (K.H s nw cd::R) h→K.Cr s cd
  nc:∀ {s:ArrS} {nw:Nat→UInt64} {cd:Nat→List UInt64} {R:List HP} (h:PH),stars (K.H s nw cd::R) h → ∀ a,a < K.sz→nw a ∈ cd a
  zv:∀ {s:ArrS} {nw:Nat→UInt64} {cd:Nat→List UInt64} {R:List HP} (h:PH),stars (K.H s nw cd::R) h→K.zk=true→ZZ s → ∀ a,a < K.sz→nw a=0
def Zs (Ks:Nat→Kid) (L:Nat) (t:TS) (s:ArrS):Prop := (t.z=true→(∀ i,i < L→(Ks i).zk=true)∧ZZ s)∧t.w≤s.writes
def Hs (Ks:Nat→Kid) (l:List Nat) (s:ArrS) (t:TS):List HP := l.map fun i=>(Ks i).H s (t.nw i) (t.cd i)
def Bk (b:Nat) (ns:List Nat) (Ks:Nat→Kid) (L:Nat) (fpU:Nat→Nat→Prop) (s0:ArrS) (t:TS):HP := ex fun s:ArrS =>
  star [pur (Env ns t.dn t.safe t.k s∧Out fpU s0 s∧(t.dn=true → ∀ i,i < L→(Ks i).Cr s (t.cd i))∧Zs Ks L t s),Arr b s,HO (!t.dn) (star (Hs Ks (List.range L) s t))]
theorem zov {f g:Nat→HP} : ∀ (l:List Nat),(∀ j,j ∈ l → ∀ R,Ent (f j::R) (g j::R)) → ∀ R,Ent (l.map f ++ R) (l.map g ++ R)
  | [],_,_=>Ent.refl
  | j::l,h,R=>fun p hp=>zas (zov l (fun i hi=>h i (List.mem_cons_of_mem _ hi)) R) (h j (List.mem_cons_self ..) _ p hp)
section
variable {P:Program} {b:Nat} {ns:List Nat} {Ks:Nat→Kid} {L dep rc wc:Nat} {fpU:Nat→Nat→Prop} {s0:ArrS} {W:World} {i:Nat} {t:TS}
theorem zd6 (hi:i < L) (s:ArrS) (t:TS) (R:List HP):((Hs Ks (List.range L) s t) ++ R).Perm ((Ks i).H s (t.nw i) (t.cd i)::(Hs Ks ((List.range L).erase i) s t ++ R)) :=
  ((List.perm_cons_erase (List.mem_range.2 hi)).map _).append_right R
theorem zev {R:List HP} (hd:t.dn=false):EntX (Bk b ns Ks L fpU s0 t::R) fun s:ArrS=>pur (Env ns false t.safe t.k s∧Out fpU s0 s∧Zs Ks L t s)::Arr b s::(Hs Ks (List.range L) s t ++ R) := fun p hp=>by
  obtain ⟨s,h1⟩ := stars_ex.1 hp
  have h2 := stars_star.1 h1
  obtain ⟨⟨h3,h4,_,h7⟩,h5⟩ := stars_pur.1 h2
  rw [hd] at h3
  refine ⟨s,stars_pur.2 ⟨⟨h3,h4,h7⟩,?_⟩⟩
  have h6:stars ([Arr b s] ++ (HO (!t.dn) (star (Hs Ks (List.range L) s t))::R)) p := h5
  rw [hd] at h6
  exact zas (fun q hq=>stars_star.1 (show stars (star (Hs Ks (List.range L) s t)::R) q from hq)) h6
theorem zfs {R:List HP} {s:ArrS} (hd:t.dn=false) (h1:Env ns false t.safe t.k s) (h2:Out fpU s0 s) (h9:Zs Ks L t s):Ent (Arr b s::(Hs Ks (List.range L) s t ++ R)) (Bk b ns Ks L fpU s0 t::R) := fun p hp=>by
  refine stars_ex.2 ⟨s,stars_star.2 (stars_pur.2 ⟨⟨by rw [hd]; exact h1,h2,(fun x=>by rw [hd] at x; cases x),h9⟩,?_⟩)⟩
  show stars ([Arr b s] ++ (HO (!t.dn) (star (Hs Ks (List.range L) s t))::R)) p
  rw [hd]
  exact zas (fun q hq=>(show stars (star (Hs Ks (List.range L) s t)::R) q from stars_star.2 hq)) hp
theorem zt5 {R:List HP} {s:ArrS} (hd:t.dn=true) (h1:Env ns true t.safe t.k s) (h2:Out fpU s0 s) (h3:∀ i,i < L→(Ks i).Cr s (t.cd i)) (h9:Zs Ks L t s):Ent (Arr b s::R) (Bk b ns Ks L fpU s0 t::R) := fun p hp=>by
  refine stars_ex.2 ⟨s,stars_star.2 (stars_pur.2 ⟨⟨by rw [hd]; exact h1,h2,(fun _=>h3),h9⟩,?_⟩)⟩
  show stars ([Arr b s] ++ (HO (!t.dn) (star (Hs Ks (List.range L) s t))::R)) p
  rw [hd]
  exact zas (fun q hq=>(show stars (star []::R) q from stars_star.2 hq)) hp
end
end Go.Proofs.Ts
namespace Go.Proofs.Ts
open Go.VG
section
variable {P:Program} {b:Nat} {ns:List Nat} {Ks:Nat→Kid} {L dep rc wc:Nat} {fpU:Nat→Nat→Prop} {s0:ArrS} {W:World} {i:Nat} {t:TS}
theorem put_nw {a:Nat} {v:UInt64} : (t.put i a v).nw i=nput (t.nw i) a v := by funext b; show (if i=i∧a=b then v else t.nw i b)=if a=b then v else t.nw i b; by_cases h:a=b <;> simp [h]
theorem zwd {a:Nat} {v:UInt64} : (t.put i a v).cd i=cput (t.cd i) a v := by funext b; show (if i=i∧a=b then t.cd i b ++ [v] else t.cd i b)=if a=b then t.cd i b ++ [v] else t.cd i b; by_cases h:a=b <;> simp [h]
theorem z0w {a j:Nat} {v:UInt64} (h:j≠i):(t.put i a v).nw j=t.nw j := by funext b; exact if_neg fun x=>h x.1.symm
theorem zt6 {a j:Nat} {v:UInt64} (h:j≠i):(t.put i a v).cd j=t.cd j := by funext b; exact if_neg fun x=>h x.1.symm
theorem fls_cd:(t.fls i).cd i=fun a=>[t.nw i a] := by funext b; exact if_pos rfl
theorem z0x {j:Nat} (h:j≠i):(t.fls i).cd j=t.cd j := by funext b; exact if_neg fun x=>h x.symm
theorem zhz {R:List HP} : ∀ (l:List HP) {h:PH},stars (l ++ R) h→stars R h
  | [],_,hh=>hh
  | _::l,_,hh=>zhz l (zby hh)
theorem zx8 {j:Nat} (h:j ∈ (List.range L).erase i):j≠i∧j < L := by
  have := (List.Nodup.mem_erase_iff List.nodup_range).1 h
  exact ⟨this.1,List.mem_range.1 this.2⟩
theorem zp1 (hk:∀ i,i < L→KidOk P b ns dep rc wc (Ks i)) {s s':ArrS} {t':TS} (hI:∀ j,j≠i→j < L→Inn (Ks j).fp s s') (hn:∀ j,j≠i→t'.nw j=t.nw j) (hc:∀ j,j≠i→t'.cd j=t.cd j) (R:List HP) :
    Ent (Hs Ks ((List.range L).erase i) s t ++ R) (Hs Ks ((List.range L).erase i) s' t' ++ R) :=
  zov _ (fun j hj R=>by
    obtain ⟨h1,h2⟩ := zx8 hj
    rw [hn j h1,hc j h1]
    exact (hk j h2).fr (hI j h1 h2)) R
theorem zt7 (hk:∀ i,i < L→KidOk P b ns dep rc wc (Ks i)) {s:ArrS} {j:Nat} {R:List HP} {p:PH} (hj:j≠i) (hl:j < L) (hp:stars (Hs Ks ((List.range L).erase i) s t ++ R) p):(Ks j).Cr s (t.cd j) := by
  have hm:j ∈ (List.range L).erase i := (List.Nodup.mem_erase_iff List.nodup_range).2 ⟨hj,List.mem_range.2 hl⟩
  have := zbd (((List.perm_cons_erase hm).map fun i=>(Ks i).H s (t.nw i) (t.cd i)).append_right R) p hp
  exact (hk j hl).cr p this
theorem zsh (hk:∀ i,i < L→KidOk P b ns dep rc wc (Ks i)) (hdj:∀ i j,i < L→j < L→i≠j → ∀ d a,(Ks i).fp d a → ¬ (Ks j).fp d a) (hfp:∀ i,i < L → ∀ d a,(Ks i).fp d a→fpU d a) (hdep:dep≤60) :
    BaseOk P (Bk b ns Ks L fpU s0) L dep rc wc (fun i=>(Ks i).sz) (fun i=>(Ks i).val) where
  depb := hdep
  szb i hi := (hk i hi).szb
  na i hi := (hk i hi).na
  size := by
    intro W i t hi hd n hn F w hs
    obtain ⟨gg,hgg⟩ := hs.heap
    obtain ⟨s,h1⟩ := zev hd _ hgg
    obtain ⟨⟨he,ho,hz⟩,h2⟩ := stars_pur.1 h1
    have h3:stars (Arr b s::(Ks i).H s (t.nw i) (t.cd i)::(Hs Ks ((List.range L).erase i) s t ++ F)) (hpg gg w) := zas (fun q hq=>zbd (zd6 hi s t F) q hq) h2
    obtain ⟨f,r,ha1,hb1,hc1⟩ := (hk i hi).size (W:=W) n hn (Hs Ks ((List.range L).erase i) s t ++ F) w ⟨hs.os,hs.tape,hs.output,gg,h3⟩
    refine ⟨f,r,ha1,hb1,hc1.mono ?_⟩
    rintro e w' ⟨_,q1,q2,q3⟩
    exact ⟨(),q1,trivial,q3.imp (Ent.trans (fun p hp=>zas (fun q hq=>zbd (zd6 hi s t F).symm q hq) hp) (zfs hd he ho hz))⟩
  rd := by
    intro W i a t hi ha hd hkk n hn F w hs
    obtain ⟨gg,hgg⟩ := hs.heap
    obtain ⟨s,h1⟩ := zev hd _ hgg
    obtain ⟨⟨he,ho,hz⟩,h2⟩ := stars_pur.1 h1
    have h3:stars (Arr b s::(Ks i).H s (t.nw i) (t.cd i)::(Hs Ks ((List.range L).erase i) s t ++ F)) (hpg gg w) := zas (fun q hq=>zbd (zd6 hi s t F) q hq) h2
    obtain ⟨f,r,ha1,hb1,hc1⟩ := (hk i hi).rd (W:=W) he ha hkk n hn (Hs Ks ((List.range L).erase i) s t ++ F) w ⟨hs.os,hs.tape,hs.output,gg,h3⟩
    refine ⟨f,r,ha1,hb1,hc1.mono ?_⟩
    rintro e w' ⟨⟨ok,s'⟩,q1,⟨q2,q3,qz⟩,q4⟩
    refine ⟨ok,q1,q2.sf,q4.imp fun p hp => ?_⟩
    have hI:∀ j,j≠i→j < L→Inn (Ks j).fp s s' := fun j hj hl=>q2.out.inn fun d a x=>hdj j i hl hi hj d a x
    have hO:Out fpU s0 s' := ho.trans (q2.out.mono (hfp i hi))
    have hZ:Zs Ks L t s' := ⟨fun x=>⟨(hz.1 x).1,qz ((hz.1 x).1 i hi) (hz.1 x).2⟩,Nat.le_trans hz.2 q2.out.1⟩
    cases ok with
    | true =>
      have hp1:stars (Arr b s' :: (Ks i).H s' (t.nw i) (t.cd i)::(Hs Ks ((List.range L).erase i) s t ++ F)) p := hp
      have hp2:stars (Arr b s' :: (Ks i).H s' ((t.use rc).nw i) ((t.use rc).cd i)::(Hs Ks ((List.range L).erase i) s' (t.use rc) ++ F)) p :=
        zas (fun q hq=>zas (zp1 hk hI (fun _ _=>rfl) (fun _ _=>rfl) F) hq) hp1
      exact zfs (t:=t.use rc) hd q2.env hO hZ p (zas (fun q hq=>zbd (zd6 hi s' (t.use rc) F).symm q hq) hp2)
    | false =>
      have hp1:stars ([Arr b s'] ++ (star []::(Hs Ks ((List.range L).erase i) s t ++ F))) p := hp
      obtain ⟨p1,p2,_,_,_,hp2⟩ := hp1
      have hp3:stars (Hs Ks ((List.range L).erase i) s t ++ F) p2 := (stars_star (Hs:=[])).1 (show stars (star []::(Hs Ks ((List.range L).erase i) s t ++ F)) p2 from hp2)
      refine zt5 (t:=(t.use rc).down) rfl q2.env hO (fun j hl => ?_) hZ p ?_
      · by_cases hj:j=i
        · subst hj; exact q3 rfl
        · exact (hk j hl).frC (hI j hj hl) (zt7 hk hj hl hp3)
      · exact zas (fun q hq=>zhz _ (show stars (Hs Ks ((List.range L).erase i) s t ++ F) q from (stars_star (Hs:=[])).1 hq)) (show stars (Arr b s' :: star []::(Hs Ks ((List.range L).erase i) s t ++ F)) p from hp)
  wr := by
    intro W i a v t hi ha hd hkk n hn F w hs
    obtain ⟨gg,hgg⟩ := hs.heap
    obtain ⟨s,h1⟩ := zev hd _ hgg
    obtain ⟨⟨he,ho,hz⟩,h2⟩ := stars_pur.1 h1
    have h3:stars (Arr b s::(Ks i).H s (t.nw i) (t.cd i)::(Hs Ks ((List.range L).erase i) s t ++ F)) (hpg gg w) := zas (fun q hq=>zbd (zd6 hi s t F) q hq) h2
    obtain ⟨f,r,ha1,hb1,hc1⟩ := (hk i hi).wr (W:=W) (v:=v) he ha hkk n hn (Hs Ks ((List.range L).erase i) s t ++ F) w ⟨hs.os,hs.tape,hs.output,gg,h3⟩
    refine ⟨f,r,ha1,hb1,hc1.mono ?_⟩
    rintro e w' ⟨⟨ok,s'⟩,q1,⟨q2,q3,qz⟩,q4⟩
    refine ⟨ok,q1,q2.sf,q4.imp fun p hp => ?_⟩
    have hI:∀ j,j≠i→j < L→Inn (Ks j).fp s s' := fun j hj hl=>q2.out.inn fun d a x=>hdj j i hl hi hj d a x
    have hO:Out fpU s0 s' := ho.trans (q2.out.mono (hfp i hi))
    have hZ0:(t.put i a v).z=true→(∀ i,i < L→(Ks i).zk=true)∧ZZ s' := fun x=>by
      have y:t.z=true∧v=0 := by simpa [TS.put] using x
      exact ⟨(hz.1 y.1).1,qz.1 ((hz.1 y.1).1 i hi) (hz.1 y.1).2 y.2⟩
    cases ok with
    | true =>
      have hp1:stars (Arr b s' :: (Ks i).H s' (nput (t.nw i) a v) (cput (t.cd i) a v)::(Hs Ks ((List.range L).erase i) s t ++ F)) p := hp
      rw [← put_nw, ← zwd] at hp1
      have hp2:stars (Arr b s' :: (Ks i).H s' (((t.put i a v).use wc).nw i) (((t.put i a v).use wc).cd i)::(Hs Ks ((List.range L).erase i) s' ((t.put i a v).use wc) ++ F)) p :=
        zas (fun q hq=>zas (zp1 (t:=t) hk hI (t' := (t.put i a v).use wc) (fun _ hj=>z0w hj) (fun _ hj=>zt6 hj) F) hq) hp1
      exact zfs (t:=(t.put i a v).use wc) hd q2.env hO ⟨hZ0,Nat.le_trans (Nat.add_le_add_right hz.2 1) (qz.2 rfl)⟩ p (zas (fun q hq=>zbd (zd6 hi s' ((t.put i a v).use wc) F).symm q hq) hp2)
    | false =>
      have hp1:stars ([Arr b s'] ++ (star []::(Hs Ks ((List.range L).erase i) s t ++ F))) p := hp
      obtain ⟨p1,p2,_,_,_,hp2⟩ := hp1
      have hp3:stars (Hs Ks ((List.range L).erase i) s t ++ F) p2 := (stars_star (Hs:=[])).1 (show stars (star []::(Hs Ks ((List.range L).erase i) s t ++ F)) p2 from hp2)
      refine zt5 (t := { ((t.put i a v).use wc).down with w := t.w }) rfl q2.env hO (fun j hl => ?_) ⟨hZ0,Nat.le_trans hz.2 q2.out.1⟩ p ?_
      · by_cases hj:j=i
        · subst hj
          have h9 := q3 rfl
          rw [← zwd (i:=j)] at h9
          exact h9
        · have h9 := (hk j hl).frC (hI j hj hl) (zt7 hk hj hl hp3)
          rw [← zt6 (a:=a) (v:=v) hj] at h9
          exact h9
      · exact zas (fun q hq=>zhz _ (show stars (Hs Ks ((List.range L).erase i) s t ++ F) q from (stars_star (Hs:=[])).1 hq)) (show stars (Arr b s' :: star []::(Hs Ks ((List.range L).erase i) s t ++ F)) p from hp)
  fl := by
    intro W i t hi hd n hn F w hs
    obtain ⟨gg,hgg⟩ := hs.heap
    obtain ⟨s,h1⟩ := zev hd _ hgg
    obtain ⟨⟨he,ho,hz⟩,h2⟩ := stars_pur.1 h1
    have h3:stars (Arr b s::(Ks i).H s (t.nw i) (t.cd i)::(Hs Ks ((List.range L).erase i) s t ++ F)) (hpg gg w) := zas (fun q hq=>zbd (zd6 hi s t F) q hq) h2
    obtain ⟨f,r,ha1,hb1,hc1⟩ := (hk i hi).fl (W:=W) he n hn (Hs Ks ((List.range L).erase i) s t ++ F) w ⟨hs.os,hs.tape,hs.output,gg,h3⟩
    refine ⟨f,r,ha1,hb1,hc1.mono ?_⟩
    rintro e w' ⟨s',q1,⟨q2,qz⟩,q4⟩
    refine ⟨(),q1,trivial,q4.imp fun p hp => ?_⟩
    have hI:∀ j,j≠i→j < L→Inn (Ks j).fp s s' := fun j hj hl=>q2.out.inn fun d a x=>hdj j i hl hi hj d a x
    have hO:Out fpU s0 s' := ho.trans (q2.out.mono (hfp i hi))
    have hZ:Zs Ks L t s' := ⟨fun x=>⟨(hz.1 x).1,qz ((hz.1 x).1 i hi) (hz.1 x).2⟩,Nat.le_trans hz.2 q2.out.1⟩
    have hp1:stars (Arr b s' :: (Ks i).H s' (t.nw i) (fun a=>[t.nw i a])::(Hs Ks ((List.range L).erase i) s t ++ F)) p := hp
    rw [← fls_cd] at hp1
    have hp2:stars (Arr b s' :: (Ks i).H s' ((t.fls i).nw i) ((t.fls i).cd i)::(Hs Ks ((List.range L).erase i) s' (t.fls i) ++ F)) p :=
      zas (fun q hq=>zas (zp1 (t:=t) hk hI (t' := t.fls i) (fun _ _=>rfl) (fun _ hj=>z0x hj) F) hq) hp1
    exact zfs (t:=t.fls i) hd q2.env hO hZ p (zas (fun q hq=>zbd (zd6 hi s' (t.fls i) F).symm q hq) hp2)
  wb := by
    intro t R h hh
    obtain ⟨s,h1⟩ := stars_ex.1 hh
    obtain ⟨⟨h3,_,_,h7⟩,_⟩ := stars_pur.1 (stars_star.1 h1)
    exact Nat.le_trans h7.2 (Nat.le_trans h3.ok.wr (Nat.sub_le _ _))
  nc := by
    intro t R h hh hd i a hi ha
    obtain ⟨s,h1⟩ := zev hd _ hh
    obtain ⟨_,h2⟩ := stars_pur.1 h1
    have h3:stars (Arr b s::(Ks i).H s (t.nw i) (t.cd i)::(Hs Ks ((List.range L).erase i) s t ++ R)) h := zas (fun q hq=>zbd (zd6 hi s t R) q hq) h2
    obtain ⟨p1,p2,_,_,_,h4⟩ := h3
    exact (hk i hi).nc p2 h4 a ha
  zv := by
    intro t R h hh hd hz i a hi ha
    obtain ⟨s,h1⟩ := zev hd _ hh
    obtain ⟨⟨_,_,hzs⟩,h2⟩ := stars_pur.1 h1
    have h3:stars (Arr b s::(Ks i).H s (t.nw i) (t.cd i)::(Hs Ks ((List.range L).erase i) s t ++ R)) h := zas (fun q hq=>zbd (zd6 hi s t R) q hq) h2
    obtain ⟨p1,p2,_,_,_,h4⟩ := h3
    exact (hk i hi).zv p2 h4 ((hzs.1 hz).1 i hi) (hzs.1 hz).2 a ha
end
end Go.Proofs.Ts
namespace Go.Proofs.Ts
open Go.VG
inductive Nd where
  | span (d st len:Nat)
  | cat (p q:Nd)
  | str (c:Nat) (p q:Nd)
  | mir (p q:Nd)
  | par (c:Nat) (p q r:Nd)
  | win (st len:Nat) (p:Nd)
namespace Nd
def rows (c n:Nat):Nat := (n - 16) / c
def sz:Nd→Nat
  | span _ _ len=>len
  | cat p q=>p.sz + q.sz
  | str c p q=>2 * (min p.sz q.sz / c * c)
  | mir p q=>min p.sz q.sz
  | par c p q r=>2 * rows c (min (min p.sz q.sz) r.sz) * c
  | win _ len _=>len
def fp:Nd→Nat→Nat→Prop
  | span d st len=>fun e a=>e=d∧st≤a∧a < st + len
  | cat p q=>fun e a=>p.fp e a∨q.fp e a
  | str _ p q=>fun e a=>p.fp e a∨q.fp e a
  | mir p q=>fun e a=>p.fp e a∨q.fp e a
  | par _ p q r=>fun e a=>p.fp e a∨q.fp e a∨r.fp e a
  | win _ _ p=>p.fp
end Nd
def mkT (v:Nat→Nat→UInt64):TS := ⟨false,true,false,0,0,v,fun d a=>[v d a]⟩
def v3 (v0 v1 v2:Nat→UInt64):Nat→Nat→UInt64 := fun i=>if i=0 then v0 else if i=1 then v1 else v2
def Nd.Rec:Nd→ArrS→(Nat→UInt64)→Prop
  | .span d st len,s,v => ∀ a,a < len→Go.Proofs.now s d (st + a)=v a ∧ ∀ c,c ∈ Go.Proofs.cand s d (st + a)→c=v a
  | .cat p q,s,v => ∃ v0 v1,p.Rec s v0∧q.Rec s v1 ∧ ∀ a,v a=if a < p.sz then v0 a else v1 (a - p.sz)
  | .str c p q,s,v => ∃ v0 v1,p.Rec s v0∧q.Rec s v1 ∧ ∀ a,v a=if a / c % 2=0 then v0 (a / c / 2 * c + a % c) else v1 (a / c / 2 * c + a % c)
  | .mir p q,s,v => ∃ v1,p.Rec s v∧q.Rec s v1
  | .par c p q r,s,v => ∃ v0 v1 v2,p.Rec s v0∧q.Rec s v1∧r.Rec s v2 ∧ ∃ (C:PC) (V:Nat→Nat→UInt64) (n:UInt64) (e:PE),C.c=c∧C.R=Nd.rows c (min (min p.sz q.sz) r.sz)∧Rc C none V n e (mkT (v3 v0 v1 v2))∧JV C V n e∧n.toNat≤s.writes ∧ ∀ a,v a=V (C.leg a) (C.off a)
  | .win st _ p,s,v => ∃ v0,p.Rec s v0 ∧ ∀ a,v a=v0 (st + a)
def Nd.Cr (N:Nd) (s:ArrS) (cd:Nat→List UInt64):Prop :=
  ∀ s1:ArrS,s.writes≤s1.writes→(∀ d a,N.fp d a→Go.Proofs.now s1 d a ∈ Go.Proofs.cand s d a ∧ ∀ c,c ∈ Go.Proofs.cand s1 d a→c=Go.Proofs.now s1 d a) → ∃ v,N.Rec s1 v ∧ ∀ a,a < N.sz→v a ∈ cd a
theorem Nd.Cr.frame {N:Nd} {s s':ArrS} {cd:Nat→List UInt64} (hi:Inn N.fp s s') (h:N.Cr s cd):N.Cr s' cd :=
  fun s1 hw h1=>h s1 (Nat.le_trans hi.1 hw) fun d a hf=>⟨(hi.2 d a hf).2 _ (h1 d a hf).1,(h1 d a hf).2⟩
theorem Nd.Cr.mono {N:Nd} {s:ArrS} {cd cd':Nat→List UInt64} (h:N.Cr s cd) (hc:∀ a,a < N.sz → ∀ c,c ∈ cd a→c ∈ cd' a):N.Cr s cd' := fun s1 hw h1=>by
  obtain ⟨v,hv,hm⟩ := h s1 hw h1
  exact ⟨v,hv,fun a ha=>hc a ha _ (hm a ha)⟩
theorem Nd.Rec.frame {s s':ArrS} : ∀ {N:Nd} {v:Nat→UInt64},Inn N.fp s s' → N.Rec s v→N.Rec s' v
  | .span d st len,v,hi,h=>fun a ha=>by
    obtain ⟨k1,k2⟩ := hi.2 d (st + a) ⟨rfl,by omega,by omega⟩
    exact ⟨k1.trans (h a ha).1,fun c hc=>(h a ha).2 c (k2 c hc)⟩
  | .cat p q,v,hi,⟨v0,v1,h0,h1,h2⟩=>⟨v0,v1,Rec.frame (hi.mono fun d a x => .inl x) h0,Rec.frame (hi.mono fun d a x => .inr x) h1,h2⟩
  | .str c p q,v,hi,⟨v0,v1,h0,h1,h2⟩=>⟨v0,v1,Rec.frame (hi.mono fun d a x => .inl x) h0,Rec.frame (hi.mono fun d a x => .inr x) h1,h2⟩
  | .mir p q,v,hi,⟨v1,h0,h1⟩=>⟨v1,Rec.frame (hi.mono fun d a x => .inl x) h0,Rec.frame (hi.mono fun d a x => .inr x) h1⟩
  | .par c p q r,v,hi,⟨v0,v1,v2,h0,h1,h2,C,V,n,e,g1,g2,g3,g4,g5,g6⟩=>⟨v0,v1,v2,Rec.frame (hi.mono fun d a x => .inl x) h0,Rec.frame (hi.mono fun d a x => .inr (.inl x)) h1,Rec.frame (hi.mono fun d a x => .inr (.inr x)) h2,C,V,n,e,g1,g2,g3,g4,Nat.le_trans g5 hi.1,g6⟩
  | .win st len p,v,hi,⟨v0,h0,h1⟩=>⟨v0,Rec.frame (N:=p) hi h0,h1⟩
end Go.Proofs.Ts
namespace Go.Proofs.Ts
open Go.VG
open Classical in
noncomputable def zB (Ks:Nat→Kid) (L:Nat) (s:ArrS):Bool := if (∀ i,i < L→(Ks i).zk=true)∧ZZ s then true else false
theorem zB_ok {Ks:Nat→Kid} {L:Nat} {s:ArrS} (h:zB Ks L s=true):(∀ i,i < L→(Ks i).zk=true)∧ZZ s := by
  unfold zB at h; split at h
  · assumption
  · cases h
theorem zB_of {Ks:Nat→Kid} {L:Nat} {s:ArrS} (h:∀ i,i < L→(Ks i).zk=true) (h2:ZZ s):zB Ks L s=true := if_pos ⟨h,h2⟩
def arr0:ArrS := ⟨[],[],[],0,false,0⟩
structure Par (t t':TS) (c:Nat):Prop where
  safe:t'.safe=t.safe
  k:t.k - c≤t'.k
structure NodeC (P:Program) (B:TS→HP) {M:Type} (HM:M→HP) (val:IfH) (dep rc wc sz:Nat) (zk:Bool) (relU:TS→M→(Nat→UInt64)→(Nat→List UInt64)→Prop) (relD:TS→(Nat→List UInt64)→Prop):Prop where
  depb:dep≤60
  szb:sz≤100000
  na : ∀ n, 100 ≤ n → ∀ w, (nilAhead n val.t val.u "Write").run P w = .ok (some false) w
  size : ∀ {W : World} {m : M}, IOk P W dep val "Size" [] [HM m] (fun _ : Unit => .int .i64 (sz : Int)) (fun _ => True) (fun _ F => HM m :: F)
  rd : ∀ {W : World} {t : TS} {m : M} {nw : Nat → UInt64} {cd : Nat → List UInt64} {a : Nat}, relU t m nw cd → t.dn = false → a < sz → rc ≤ t.k → IOk P W dep val "Read" [.int .i64 (a : Int)] [B t, HM m] (fun x : Bool × TS × M => .tuple #[.int .u64 ((if x.1 then nw a else 0 : UInt64).toNat : Int), .int .i64 (if x.1 then 0 else 5)])
    (fun x=>(x.1=true→relU x.2.1 x.2.2 nw cd)∧(x.1=false→relD x.2.1 cd∧t.safe=false)∧x.2.1.dn = !x.1∧Par t x.2.1 rc∧(zk=true→t.z=true→x.2.1.z=true)) (fun x F=>B x.2.1::HO x.1 (HM x.2.2)::F)
  wr : ∀ {W : World} {t : TS} {m : M} {nw : Nat → UInt64} {cd : Nat → List UInt64} {a : Nat} {v : UInt64}, relU t m nw cd → t.dn = false → a < sz → wc ≤ t.k → IOk P W dep val "Write" [.int .i64 (a : Int), .int .u64 (v.toNat : Int)] [B t, HM m] (fun x : Bool × TS × M => .int .i64 (if x.1 then 0 else 5))
    (fun x=>(x.1=true→relU x.2.1 x.2.2 (nput nw a v) (cput cd a v))∧(x.1=false→relD x.2.1 (cput cd a v)∧t.safe=false)∧x.2.1.dn = !x.1∧Par t x.2.1 wc∧(zk=true→t.z=true→v=0→x.2.1.z=true)∧(x.1=true→t.w + 1≤x.2.1.w)) (fun x F=>B x.2.1::HO x.1 (HM x.2.2)::F)
  fl : ∀ {W : World} {t : TS} {m : M} {nw : Nat → UInt64} {cd : Nat → List UInt64}, relU t m nw cd → t.dn = false → IOk P W dep val "Flush" [] [B t, HM m] (fun _ : TS × M => .int .i64 0)
    (fun x=>relU x.1 x.2 nw (fun a=>[nw a])∧x.1.dn=false∧Par t x.1 0∧(zk=true→t.z=true→x.1.z=true)) (fun x F=>B x.1::HM x.2::F)
  ext:∀ {t t':TS} {m:M} {nw:Nat→UInt64} {cd:Nat→List UInt64},relU t m nw cd→t'.nw=t.nw→t'.cd=t.cd→t.w≤t'.w→relU t' m nw cd
  ud:∀ {t:TS} {m:M} {nw:Nat→UInt64} {cd:Nat→List UInt64},relU t m nw cd→relD t cd
  nc:∀ {t:TS} {m:M} {nw:Nat→UInt64} {cd:Nat→List UInt64},relU t m nw cd → ∀ a,a < sz→nw a ∈ cd a
def nodeK (N:Nd) (zk:Bool) (val:IfH) (Ks:Nat→Kid) (L:Nat) {M:Type} (HM:M→HP) (relU:TS→M→(Nat→UInt64)→(Nat→List UInt64)→Prop):Kid where
  sz := N.sz
  zk := zk
  val := val
  H s nw cd := ex fun x:TS × M=>star [pur (x.1.dn=false∧relU x.1 x.2 nw cd∧x.1.w≤s.writes),HM x.2,star (Hs Ks (List.range L) s x.1)]
  Cr := N.Cr
  fp := N.fp
theorem Env.mono {ns:List Nat} {dn safe:Bool} {k k':Nat} {s:ArrS} (h:Env ns dn safe k s) (hk:k' ≤ k):Env ns dn safe k' s :=
  ⟨Nat.le_trans hk h.kb,h.ok.mono (by omega),h.dn,h.fu,h.ms⟩
section
variable {P:Program} {b:Nat} {ns:List Nat} {Ks:Nat→Kid} {L dep rc wc dep' rc' wc':Nat} {N:Nd} {zk:Bool} {val:IfH} {M:Type} {HM:M→HP} {relU:TS→M→(Nat→UInt64)→(Nat→List UInt64)→Prop} {relD:TS→(Nat→List UInt64)→Prop}
theorem zed {s:ArrS} {nw:Nat→UInt64} {cd:Nat→List UInt64} {F:List HP} : EntX ((nodeK N zk val Ks L HM relU).H s nw cd::F) fun x:TS × M=>pur (x.1.dn=false∧relU x.1 x.2 nw cd∧x.1.w≤s.writes)::HM x.2::(Hs Ks (List.range L) s x.1 ++ F) := fun p hp=>by
  obtain ⟨x,h1⟩ := stars_ex.1 hp
  obtain ⟨h2,h3⟩ := stars_pur.1 (stars_star.1 h1)
  exact ⟨x,stars_pur.2 ⟨h2,zas (fun q hq=>stars_star.1 hq) (show stars (HM x.2::star (Hs Ks (List.range L) s x.1)::F) p from h3)⟩⟩
theorem zei {s:ArrS} {nw:Nat→UInt64} {cd:Nat→List UInt64} {F:List HP} {t:TS} {m:M} (hd:t.dn=false) (hr:relU t m nw cd) (hw:t.w≤s.writes):Ent (HM m::(Hs Ks (List.range L) s t ++ F)) ((nodeK N zk val Ks L HM relU).H s nw cd::F) := fun p hp =>
  stars_ex.2 ⟨(t,m),stars_star.2 (stars_pur.2 ⟨⟨hd,hr,hw⟩,(zas (fun _q hq=>stars_star.2 hq) hp:stars (HM m::star (Hs Ks (List.range L) s t)::F) p)⟩)⟩
theorem swapL {A B:HP} {l F:List HP} : (A::(l ++ (B::F))).Perm (B::(l ++ (A::F))) :=
  ((List.perm_middle (a:=B) (l₁:=l) (l₂:=F)).cons A).trans ((List.Perm.swap B A (l ++ F)).trans ((List.perm_middle (a:=A) (l₁:=l) (l₂:=F)).symm.cons B))
theorem zsi {fpU:Nat→Nat→Prop} {s0:ArrS} {t:TS} {R:List HP} (hd:t.dn=true):EntX (Bk b ns Ks L fpU s0 t::R) fun s:ArrS=>pur (Env ns true t.safe t.k s∧Out fpU s0 s∧(∀ i,i < L→(Ks i).Cr s (t.cd i))∧Zs Ks L t s)::Arr b s::R := fun p hp=>by
  obtain ⟨s,h1⟩ := stars_ex.1 hp
  obtain ⟨⟨h3,h4,h6,h7⟩,h5⟩ := stars_pur.1 (stars_star.1 h1)
  rw [hd] at h3
  refine ⟨s,stars_pur.2 ⟨⟨h3,h4,h6 hd,h7⟩,?_⟩⟩
  have h8:stars ([Arr b s] ++ (HO (!t.dn) (star (Hs Ks (List.range L) s t))::R)) p := h5
  rw [hd] at h8
  exact zas (fun q hq=>(stars_star (Hs:=[])).1 (show stars (star []::R) q from hq)) h8
theorem ztp (hk:∀ i,i < L→KidOk P b ns dep rc wc (Ks i)) (hfp:∀ i,i < L → ∀ d a,(Ks i).fp d a→N.fp d a) (hN:∀ s0,NodeC P (Bk b ns Ks L N.fp s0) HM val dep' rc' wc' N.sz zk relU relD)
    (hcl:∀ {s:ArrS} {t:TS} {cd:Nat→List UInt64},(∀ i,i < L→(Ks i).Cr s (t.cd i))→t.w≤s.writes→relD t cd→N.Cr s cd) (hzk:zk=true → ∀ i,i < L→(Ks i).zk=true)
    (hzv:∀ {t:TS} {m:M} {nw:Nat→UInt64} {cd:Nat→List UInt64},relU t m nw cd→zk=true→(∀ i a,i < L→a < (Ks i).sz→t.nw i a=0) → ∀ a,a < N.sz→nw a=0):KidOk P b ns dep' rc' wc' (nodeK N zk val Ks L HM relU) where
  depb := (hN arr0).depb
  szb := (hN arr0).szb
  na := (hN arr0).na
  size := by
    intro W s nw cd n hn F w hs
    obtain ⟨gg,hgg⟩ := hs.heap
    have h0:stars ((nodeK N zk val Ks L HM relU).H s nw cd::Arr b s::F) (hpg gg w) := zbx hgg
    obtain ⟨⟨t,m⟩,h1⟩ := zed _ h0
    obtain ⟨⟨hd,hr,hw⟩,h2⟩ := stars_pur.1 h1
    obtain ⟨f,r,ha1,hb1,hc1⟩ := (hN s).size (W:=W) (m:=m) n hn (Hs Ks (List.range L) s t ++ (Arr b s::F)) w ⟨hs.os,hs.tape,hs.output,gg,h2⟩
    refine ⟨f,r,ha1,hb1,hc1.mono ?_⟩
    rintro e w' ⟨_,q1,q2,q4⟩
    exact ⟨(),q1,trivial,q4.imp fun p hp=>zbx (zei hd hr hw _ hp)⟩
  rd := by
    intro W s nw cd k a safe he ha hk' n hn F w hs
    obtain ⟨gg,hgg⟩ := hs.heap
    have h0:stars ((nodeK N zk val Ks L HM relU).H s nw cd::Arr b s::F) (hpg gg w) := zbx hgg
    obtain ⟨⟨t,m⟩,h1⟩ := zed _ h0
    obtain ⟨⟨hd,hr,hw⟩,h2⟩ := stars_pur.1 h1
    have hd':t.dn=false := hd
    have hr1:relU ({ t with k := k,safe := safe,z := zB Ks L s,w := s.writes } : TS) m nw cd := (hN s).ext hr rfl rfl hw
    have h3:stars (Bk b ns Ks L N.fp s { t with k := k,safe := safe,z := zB Ks L s,w := s.writes } :: HM m::F) (hpg gg w) := zfs (t := { t with k := k,safe := safe,z := zB Ks L s,w := s.writes }) hd' he Out.refl ⟨zB_ok,Nat.le_refl _⟩ _ (zbd swapL _ h2)
    obtain ⟨f,r,ha1,hb1,hc1⟩ := (hN s).rd (W:=W) hr1 hd' ha hk' n hn F w ⟨hs.os,hs.tape,hs.output,gg,h3⟩
    refine ⟨f,r,ha1,hb1,hc1.mono ?_⟩
    rintro e w' ⟨⟨ok,t2,m2⟩,q1,⟨p1,p2,p3,p4,p5⟩,q4⟩
    obtain ⟨gg2,hg2⟩ := q4.heap
    cases ok with
    | true =>
      have p3':t2.dn=false := p3
      obtain ⟨s2,k1⟩ := zev p3' _ (show stars (Bk b ns Ks L N.fp s t2::HM m2::F) (hpg gg2 w') from hg2)
      obtain ⟨⟨e2,o2,z2⟩,k2⟩ := stars_pur.1 k1
      refine ⟨(true,s2),q1,⟨⟨?_,o2,(fun x=>by cases x)⟩,(fun x=>by cases x),fun hz hzz=>(z2.1 (p5 hz (zB_of (hzk hz) hzz))).2⟩,⟨q4.os,q4.tape,q4.output,gg2,?_⟩⟩
      · have e3:Env ns false safe t2.k s2 := by have := e2; rw [p4.safe] at this; exact this
        exact e3.mono p4.k
      · exact zbx (zei (F:=Arr b s2::F) p3' (p1 rfl) z2.2 _ (zbd swapL _ k2))
    | false =>
      have p3':t2.dn=true := p3
      obtain ⟨s2,k1⟩ := zsi p3' _ (show stars (Bk b ns Ks L N.fp s t2::star []::F) (hpg gg2 w') from hg2)
      obtain ⟨⟨e2,o2,c2,z2⟩,k2⟩ := stars_pur.1 k1
      refine ⟨(false,s2),q1,⟨⟨?_,o2,fun _=>(p2 rfl).2⟩,fun _=>hcl c2 z2.2 (p2 rfl).1,fun hz hzz=>(z2.1 (p5 hz (zB_of (hzk hz) hzz))).2⟩,⟨q4.os,q4.tape,q4.output,gg2,k2⟩⟩
      have e3:Env ns true safe t2.k s2 := by have := e2; rw [p4.safe] at this; exact this
      exact e3.mono p4.k
  wr := by
    intro W s nw cd k a v safe he ha hk' n hn F w hs
    obtain ⟨gg,hgg⟩ := hs.heap
    have h0:stars ((nodeK N zk val Ks L HM relU).H s nw cd::Arr b s::F) (hpg gg w) := zbx hgg
    obtain ⟨⟨t,m⟩,h1⟩ := zed _ h0
    obtain ⟨⟨hd,hr,hw⟩,h2⟩ := stars_pur.1 h1
    have hd':t.dn=false := hd
    have hr1:relU ({ t with k := k,safe := safe,z := zB Ks L s,w := s.writes } : TS) m nw cd := (hN s).ext hr rfl rfl hw
    have h3:stars (Bk b ns Ks L N.fp s { t with k := k,safe := safe,z := zB Ks L s,w := s.writes } :: HM m::F) (hpg gg w) := zfs (t := { t with k := k,safe := safe,z := zB Ks L s,w := s.writes }) hd' he Out.refl ⟨zB_ok,Nat.le_refl _⟩ _ (zbd swapL _ h2)
    obtain ⟨f,r,ha1,hb1,hc1⟩ := (hN s).wr (W:=W) (v:=v) hr1 hd' ha hk' n hn F w ⟨hs.os,hs.tape,hs.output,gg,h3⟩
    refine ⟨f,r,ha1,hb1,hc1.mono ?_⟩
    rintro e w' ⟨⟨ok,t2,m2⟩,q1,⟨p1,p2,p3,p4,p5,p6⟩,q4⟩
    obtain ⟨gg2,hg2⟩ := q4.heap
    cases ok with
    | true =>
      have p3':t2.dn=false := p3
      obtain ⟨s2,k1⟩ := zev p3' _ (show stars (Bk b ns Ks L N.fp s t2::HM m2::F) (hpg gg2 w') from hg2)
      obtain ⟨⟨e2,o2,z2⟩,k2⟩ := stars_pur.1 k1
      refine ⟨(true,s2),q1,⟨⟨?_,o2,(fun x=>by cases x)⟩,(fun x=>by cases x),(fun hz hzz hv=>(z2.1 (p5 hz (zB_of (hzk hz) hzz) hv)).2),(fun _=>Nat.le_trans (p6 rfl) z2.2)⟩,⟨q4.os,q4.tape,q4.output,gg2,?_⟩⟩
      · have e3:Env ns false safe t2.k s2 := by have := e2; rw [p4.safe] at this; exact this
        exact e3.mono p4.k
      · exact zbx (zei (F:=Arr b s2::F) p3' (p1 rfl) z2.2 _ (zbd swapL _ k2))
    | false =>
      have p3':t2.dn=true := p3
      obtain ⟨s2,k1⟩ := zsi p3' _ (show stars (Bk b ns Ks L N.fp s t2::star []::F) (hpg gg2 w') from hg2)
      obtain ⟨⟨e2,o2,c2,z2⟩,k2⟩ := stars_pur.1 k1
      refine ⟨(false,s2),q1,⟨⟨?_,o2,fun _=>(p2 rfl).2⟩,fun _=>hcl c2 z2.2 (p2 rfl).1,(fun hz hzz hv=>(z2.1 (p5 hz (zB_of (hzk hz) hzz) hv)).2),(fun x=>by cases x)⟩,⟨q4.os,q4.tape,q4.output,gg2,k2⟩⟩
      have e3:Env ns true safe t2.k s2 := by have := e2; rw [p4.safe] at this; exact this
      exact e3.mono p4.k
  fl := by
    intro W s nw cd k safe he n hn F w hs
    obtain ⟨gg,hgg⟩ := hs.heap
    have h0:stars ((nodeK N zk val Ks L HM relU).H s nw cd::Arr b s::F) (hpg gg w) := zbx hgg
    obtain ⟨⟨t,m⟩,h1⟩ := zed _ h0
    obtain ⟨⟨hd,hr,hw⟩,h2⟩ := stars_pur.1 h1
    have hd':t.dn=false := hd
    have hr1:relU ({ t with k := k,safe := safe,z := zB Ks L s,w := s.writes } : TS) m nw cd := (hN s).ext hr rfl rfl hw
    have h3:stars (Bk b ns Ks L N.fp s { t with k := k,safe := safe,z := zB Ks L s,w := s.writes } :: HM m::F) (hpg gg w) := zfs (t := { t with k := k,safe := safe,z := zB Ks L s,w := s.writes }) hd' he Out.refl ⟨zB_ok,Nat.le_refl _⟩ _ (zbd swapL _ h2)
    obtain ⟨f,r,ha1,hb1,hc1⟩ := (hN s).fl (W:=W) hr1 hd' n hn F w ⟨hs.os,hs.tape,hs.output,gg,h3⟩
    refine ⟨f,r,ha1,hb1,hc1.mono ?_⟩
    rintro e w' ⟨⟨t2,m2⟩,q1,⟨p1,p3,p4,p5⟩,q4⟩
    obtain ⟨gg2,hg2⟩ := q4.heap
    have p3':t2.dn=false := p3
    obtain ⟨s2,k1⟩ := zev p3' _ (show stars (Bk b ns Ks L N.fp s t2::HM m2::F) (hpg gg2 w') from hg2)
    obtain ⟨⟨e2,o2,z2⟩,k2⟩ := stars_pur.1 k1
    refine ⟨s2,q1,⟨⟨?_,o2,fun x=>by cases x⟩,fun hz hzz=>(z2.1 (p5 hz (zB_of (hzk hz) hzz))).2⟩,⟨q4.os,q4.tape,q4.output,gg2,?_⟩⟩
    · have e3:Env ns false safe t2.k s2 := by have := e2; rw [p4.safe] at this; exact this
      exact e3.mono p4.k
    · exact zbx (zei (F:=Arr b s2::F) p3' p1 z2.2 _ (zbd swapL _ k2))
  fr := by
    intro s s' nw cd R hi p hp
    obtain ⟨⟨t,m⟩,h1⟩ := zed _ hp
    obtain ⟨⟨hd,hr,hw⟩,h2⟩ := stars_pur.1 h1
    refine zei hd hr (Nat.le_trans hw hi.1) _ (zas (fun q hq => ?_) h2)
    exact zov (f:=fun i=>(Ks i).H s (t.nw i) (t.cd i)) (g:=fun i=>(Ks i).H s' (t.nw i) (t.cd i)) (List.range L) (fun j hj R=>(hk j (List.mem_range.1 hj)).fr (hi.mono (hfp j (List.mem_range.1 hj)))) R q hq
  frC hi h := Nd.Cr.frame hi h
  cr := by
    intro s nw cd R p hp
    obtain ⟨⟨t,m⟩,h1⟩ := zed _ hp
    obtain ⟨⟨hd,hr,hw⟩,h2⟩ := stars_pur.1 h1
    refine hcl (fun i hi => ?_) hw ((hN s).ud hr)
    have h4 := zbd (zd6 hi s t R) _ (zby h2)
    exact (hk i hi).cr p h4
  nc := by
    intro s nw cd R p hp a ha
    obtain ⟨⟨t,m⟩,h1⟩ := zed _ hp
    obtain ⟨⟨hd,hr,hw⟩,h2⟩ := stars_pur.1 h1
    exact (hN s).nc hr a ha
  zv := by
    intro s nw cd R p hp hz hzz a ha
    obtain ⟨⟨t,m⟩,h1⟩ := zed _ hp
    obtain ⟨⟨hd,hr,hw⟩,h2⟩ := stars_pur.1 h1
    refine hzv hr hz (fun i a hi ha => ?_) a ha
    have h4 := zbd (zd6 hi s t R) _ (zby h2)
    exact (hk i hi).zv p h4 (hzk hz i hi) hzz a ha
end
end Go.Proofs.Ts
namespace Go.Proofs.Ts
open Go.VG
def relM (lg off:Nat→Nat) (sz:Nat) (t:TS) (nw:Nat→UInt64) (cd:Nat→List UInt64):Prop :=
  ∀ a,a < sz→nw a=now t (lg a) (off a)∧nw a ∈ cd a ∧ ∀ c,c ∈ cand t (lg a) (off a)→c ∈ cd a
def relMD (lg off:Nat→Nat) (sz:Nat) (t:TS) (cd:Nat→List UInt64):Prop := ∀ a,a < sz → ∀ c,c ∈ cand t (lg a) (off a)→c ∈ cd a
section
variable {lg off:Nat→Nat} {sz a d b:Nat} {t t':TS} {nw:Nat→UInt64} {cd:Nat→List UInt64} {v:UInt64}
theorem relM.ud (h:relM lg off sz t nw cd):relMD lg off sz t cd := fun a ha=>(h a ha).2.2
theorem relM.ext (h:relM lg off sz t nw cd) (h1:t'.nw=t.nw) (h2:t'.cd=t.cd):relM lg off sz t' nw cd := fun a ha=>by
  unfold now cand; rw [h1,h2]; exact h a ha
theorem relM.same (h:relM lg off sz t nw cd) (h1:∀ a,a < sz→now t' (lg a) (off a)=now t (lg a) (off a)) (h2:∀ a,a < sz → ∀ c,c ∈ cand t' (lg a) (off a)→c ∈ cand t (lg a) (off a)):relM lg off sz t' nw cd :=
  fun a ha=>⟨(h a ha).1.trans (h1 a ha).symm,(h a ha).2.1,fun c hc=>(h a ha).2.2 c (h2 a ha c hc)⟩
theorem relM.put (hi:∀ a b,a < sz→b < sz→lg a=lg b→off a=off b→a=b) (h:relM lg off sz t nw cd) (ha:a < sz):relM lg off sz (t.put (lg a) (off a) v) (nput nw a v) (cput cd a v) := fun b hb=>by
  by_cases e:a=b
  · subst e
    refine ⟨?_,?_,fun c hc => ?_⟩
    · show (if a=a then v else _)=(if lg a=lg a∧off a=off a then v else _)
      rw [if_pos rfl,if_pos ⟨rfl,rfl⟩]
    · show (if a=a then v else _) ∈ (if a=a then _ else _)
      rw [if_pos rfl,if_pos rfl]; simp
    · have h1:c ∈ (if lg a=lg a∧off a=off a then t.cd (lg a) (off a) ++ [v] else t.cd (lg a) (off a)) := hc
      rw [if_pos ⟨rfl,rfl⟩] at h1
      show c ∈ (if a=a then cd a ++ [v] else cd a)
      rw [if_pos rfl]
      rcases List.mem_append.1 h1 with h1 | h1
      · exact List.mem_append.2 (.inl ((h a ha).2.2 c h1))
      · exact List.mem_append.2 (.inr h1)
  · have hne:¬ (lg a=lg b∧off a=off b) := fun x=>e (hi a b ha hb x.1 x.2)
    have e1:now (t.put (lg a) (off a) v) (lg b) (off b)=now t (lg b) (off b) := if_neg hne
    have e2:cand (t.put (lg a) (off a) v) (lg b) (off b)=cand t (lg b) (off b) := if_neg hne
    have e3:nput nw a v b=nw b := if_neg e
    have e4:cput cd a v b=cd b := if_neg e
    rw [e1,e2,e3,e4]
    exact h b hb
theorem relM.oth (hn:∀ a,a < sz → ¬ (d=lg a∧b=off a)) (h:relM lg off sz t nw cd):relM lg off sz (t.put d b v) nw cd := fun a ha=>by
  have e1:now (t.put d b v) (lg a) (off a)=now t (lg a) (off a) := if_neg (hn a ha)
  have e2:cand (t.put d b v) (lg a) (off a)=cand t (lg a) (off a) := if_neg (hn a ha)
  rw [e1,e2]; exact h a ha
theorem relM.flushed (h:relM lg off sz t nw cd) (hf:∀ a,a < sz → ∀ c,c ∈ cand t (lg a) (off a)→c=now t (lg a) (off a)):relM lg off sz t nw (fun a=>[nw a]) := fun a ha =>
  ⟨(h a ha).1,List.mem_singleton.2 rfl,fun c hc=>List.mem_singleton.2 ((hf a ha c hc).trans (h a ha).1.symm)⟩
theorem relM.nc (h:relM lg off sz t nw cd) (ha:a < sz):nw a ∈ cd a := (h a ha).2.1
end
section
variable {Ks:Nat→Kid} {s:ArrS} {t:TS} {cd:Nat→List UInt64} {p q r:Nd}
theorem cr_mir (h:∀ i,i < 2→(Ks i).Cr s (t.cd i)) (h0:(Ks 0).Cr=p.Cr) (h1:(Ks 1).Cr=q.Cr) (hr:relMD (fun _=>0) id (min p.sz q.sz) t cd):(Nd.mir p q).Cr s cd := fun s1 hw hs=>by
  have g0 := h 0 (by decide)
  have g1 := h 1 (by decide)
  rw [h0] at g0
  rw [h1] at g1
  obtain ⟨v0,r0,m0⟩ := g0 s1 hw fun d a x=>hs d a (.inl x)
  obtain ⟨v1,r1,m1⟩ := g1 s1 hw fun d a x=>hs d a (.inr x)
  exact ⟨v0,⟨v1,r0,r1⟩,fun a ha=>hr a ha _ (m0 a (Nat.lt_of_lt_of_le ha (Nat.min_le_left ..)))⟩
theorem cr_win {st len:Nat} (h:∀ i,i < 1→(Ks i).Cr s (t.cd i)) (h0:(Ks 0).Cr=p.Cr) (hl:st + len≤p.sz) (hr:relMD (fun _=>0) (fun a=>st + a) len t cd):(Nd.win st len p).Cr s cd := fun s1 hw hs=>by
  have g0 := h 0 (by decide)
  rw [h0] at g0
  obtain ⟨v0,r0,m0⟩ := g0 s1 hw fun d a x=>hs d a x
  exact ⟨fun a=>v0 (st + a),⟨v0,r0,fun _=>rfl⟩,fun a ha=>hr a ha _ (m0 (st + a) (by have:a < len := ha; omega))⟩
def catL (n a:Nat):Nat := if a < n then 0 else 1
def catO (n a:Nat):Nat := if a < n then a else a - n
theorem cr_cat (h:∀ i,i < 2→(Ks i).Cr s (t.cd i)) (h0:(Ks 0).Cr=p.Cr) (h1:(Ks 1).Cr=q.Cr) (hr:relMD (catL p.sz) (catO p.sz) (p.sz + q.sz) t cd):(Nd.cat p q).Cr s cd := fun s1 hw hs=>by
  have g0 := h 0 (by decide)
  have g1 := h 1 (by decide)
  rw [h0] at g0
  rw [h1] at g1
  obtain ⟨v0,r0,m0⟩ := g0 s1 hw fun d a x=>hs d a (.inl x)
  obtain ⟨v1,r1,m1⟩ := g1 s1 hw fun d a x=>hs d a (.inr x)
  refine ⟨fun a=>if a < p.sz then v0 a else v1 (a - p.sz),⟨v0,v1,r0,r1,fun _=>rfl⟩,fun a ha=>hr a ha _ ?_⟩
  have ha':a < p.sz + q.sz := ha
  unfold catL catO
  show (if a < p.sz then v0 a else v1 (a - p.sz)) ∈ _
  by_cases e:a < p.sz
  · rw [if_pos e,if_pos e,if_pos e]; exact m0 a e
  · rw [if_neg e,if_neg e,if_neg e]; exact m1 _ (by omega)
def strL (c a:Nat):Nat := a / c % 2
def strO (c a:Nat):Nat := a / c / 2 * c + a % c
theorem zsj {c a n:Nat} (hc:1≤c) (ha:a < 2 * (n / c * c)):strO c a < n := by
  unfold strO
  have h1:a / c < 2 * (n / c) := Nat.div_lt_of_lt_mul (by rw [Nat.mul_comm]; rw [Nat.mul_assoc]; exact ha)
  have h2:a / c / 2 < n / c := by omega
  have h3:a % c < c := Nat.mod_lt _ hc
  have h4:(a / c / 2 + 1) * c≤n / c * c := Nat.mul_le_mul_right c h2
  have h5:n / c * c≤n := Nat.div_mul_le_self n c
  rw [Nat.add_mul,Nat.one_mul] at h4
  omega
theorem cr_str {c:Nat} (hc:1≤c) (h:∀ i,i < 2→(Ks i).Cr s (t.cd i)) (h0:(Ks 0).Cr=p.Cr) (h1:(Ks 1).Cr=q.Cr) (hr:relMD (strL c) (strO c) (2 * (min p.sz q.sz / c * c)) t cd):(Nd.str c p q).Cr s cd := fun s1 hw hs=>by
  have g0 := h 0 (by decide)
  have g1 := h 1 (by decide)
  rw [h0] at g0
  rw [h1] at g1
  obtain ⟨v0,r0,m0⟩ := g0 s1 hw fun d a x=>hs d a (.inl x)
  obtain ⟨v1,r1,m1⟩ := g1 s1 hw fun d a x=>hs d a (.inr x)
  refine ⟨fun a=>if a / c % 2=0 then v0 (a / c / 2 * c + a % c) else v1 (a / c / 2 * c + a % c),⟨v0,v1,r0,r1,fun _=>rfl⟩,fun a ha=>hr a ha _ ?_⟩
  have hl := zsj hc ha
  have l0:strO c a < p.sz := Nat.lt_of_lt_of_le hl (Nat.min_le_left ..)
  have l1:strO c a < q.sz := Nat.lt_of_lt_of_le hl (Nat.min_le_right ..)
  show (if a / c % 2=0 then v0 (a / c / 2 * c + a % c) else v1 (a / c / 2 * c + a % c)) ∈ _
  by_cases e:a / c % 2=0
  · rw [if_pos e]
    have e2:strL c a=0 := e
    rw [e2]; exact m0 _ l0
  · rw [if_neg e]
    have e2:strL c a=1 := by unfold strL; omega
    rw [e2]; exact m1 _ l1
end
end Go.Proofs.Ts
namespace Go.Proofs.Ts
open Go.VG
def relP (C:PC) (t:TS) (m:UInt64 × PE) (nw:Nat→UInt64) (cd:Nat→List UInt64):Prop :=
  ∃ V,JV C V m.1 m.2∧m.1.toNat≤t.w∧Qs C none V m.1 m.2 t ∧ ∀ a,a < C.D→nw a=V (C.leg a) (C.off a)∧nw a ∈ cd a
def relPD (C:PC) (t:TS) (cd:Nat→List UInt64):Prop :=
  (∃ V q e,JV C V q e∧q.toNat≤t.w∧Qs C none V q e t ∧ ∀ a,a < C.D→V (C.leg a) (C.off a) ∈ cd a) ∨
  (∃ V q e V' q' e',JV C V q e∧Nx C V q V' q' e' ∧ q'.toNat≤t.w∧q'.toNat≤999999999∧Pe C none V q e V' q' e' t ∧ ∀ a,a < C.D→V (C.leg a) (C.off a) ∈ cd a∧V' (C.leg a) (C.off a) ∈ cd a)
section
variable {C:PC} {t t':TS} {m:UInt64 × PE} {nw:Nat→UInt64} {cd:Nat→List UInt64}
theorem Lg.ext {V:Nat→Nat→UInt64} {qo q:UInt64} {e e':PE} {hp hn:UInt64→Prop} {x:Nat→Nat→Prop} {nwP bc:Prop} {bn d:Nat} (h:Lg C V qo e q e' hp hn x nwP bn bc t d) (h1:t'.nw=t.nw) (h2:t'.cd=t.cd):Lg C V qo e q e' hp hn x nwP bn bc t' d :=
  h.frame (fun b=>by unfold now; rw [h1]) (fun b _=>by unfold cand; rw [h2])
theorem relP.ext (h:relP C t m nw cd) (h1:t'.nw=t.nw) (h2:t'.cd=t.cd) (h3:t.w≤t'.w):relP C t' m nw cd := by
  obtain ⟨V,g1,g2,g3,g4⟩ := h
  exact ⟨V,g1,Nat.le_trans g2 h3,fun d hd hs=>(g3 d hd hs).ext h1 h2,g4⟩
theorem relP.ud (h:relP C t m nw cd):relPD C t cd := by
  obtain ⟨V,g1,g2,g3,g4⟩ := h
  exact .inl ⟨V,m.1,m.2,g1,g2,g3,fun a ha=>(g4 a ha).1 ▸ (g4 a ha).2⟩
theorem relP.nc (h:relP C t m nw cd) {a:Nat} (ha:a < C.D):nw a ∈ cd a := by
  obtain ⟨V,g1,g2,g3,g4⟩ := h
  exact (g4 a ha).2
variable {Ks:Nat→Kid} {s:ArrS} {p q r:Nd} {c:Nat}
theorem C_D {n:Nat} (hc:C.c=c) (hR:C.R=Nd.rows c n):C.D=2 * Nd.rows c n * c := by
  unfold PC.D
  rw [C.hL,hc,hR]
theorem C_sz {n:Nat} (hn:16≤n) (hc:C.c=c) (hR:C.R=Nd.rows c n):C.sz≤n := by
  unfold PC.sz PC.O
  rw [hc,hR]
  have := Nat.div_mul_le_self (n - 16) c
  unfold Nd.rows; omega
theorem cr_par (hn:16≤min (min p.sz q.sz) r.sz) (hc:C.c=c) (hR:C.R=Nd.rows c (min (min p.sz q.sz) r.sz)) (h:∀ i,i < 3→(Ks i).Cr s (t.cd i)) (h0:(Ks 0).Cr=p.Cr) (h1:(Ks 1).Cr=q.Cr) (h2:(Ks 2).Cr=r.Cr) (hw:t.w≤s.writes) (hr:relPD C t cd):(Nd.par c p q r).Cr s cd := fun s1 hws hs=>by
  have g0 := h 0 (by decide)
  have g1 := h 1 (by decide)
  have g2 := h 2 (by decide)
  rw [h0] at g0
  rw [h1] at g1
  rw [h2] at g2
  obtain ⟨v0,r0,m0⟩ := g0 s1 hws fun d a x=>hs d a (.inl x)
  obtain ⟨v1,r1,m1⟩ := g1 s1 hws fun d a x=>hs d a (.inr (.inl x))
  obtain ⟨v2,r2,m2⟩ := g2 s1 hws fun d a x=>hs d a (.inr (.inr x))
  have hsz := C_sz hn hc hR
  have hL := C.hL
  have hl0:min (min p.sz q.sz) r.sz≤p.sz := Nat.le_trans (Nat.min_le_left ..) (Nat.min_le_left ..)
  have hl1:min (min p.sz q.sz) r.sz≤q.sz := Nat.le_trans (Nat.min_le_left ..) (Nat.min_le_right ..)
  have hl2:min (min p.sz q.sz) r.sz≤r.sz := Nat.min_le_right ..
  have hres:Restarted C t (mkT (v3 v0 v1 v2)) := ⟨fun d a hd ha=>by
    show v3 v0 v1 v2 d a ∈ t.cd d a
    have h3:d=0∨d=1∨d=2 := by omega
    rcases h3 with rfl | rfl | rfl
    · exact m0 a (by omega)
    · exact m1 a (by omega)
    · exact m2 a (by omega),fun _ _=>rfl⟩
  have hD := C_D hc hR
  have fin:∀ V n e,Rc C none V n e (mkT (v3 v0 v1 v2))→JV C V n e→n.toNat≤t.w→(∀ a,a < C.D→V (C.leg a) (C.off a) ∈ cd a) → ∃ v,(Nd.par c p q r).Rec s1 v ∧ ∀ a,a < (Nd.par c p q r).sz→v a ∈ cd a := fun V n e k1 k2 k3 k4 =>
    ⟨fun a=>V (C.leg a) (C.off a),⟨v0,v1,v2,r0,r1,r2,C,V,n,e,hc,hR,k1,k2,Nat.le_trans k3 (Nat.le_trans hw hws),fun _=>rfl⟩,fun a ha=>k4 a (by rw [hD]; exact ha)⟩
  rcases hr with ⟨V,n,e,k1,k2,k3,k4⟩ | ⟨V,n,e,V',n',e',k1,k2,k3,k3',k4,k5⟩
  · exact fin V n e (Rc.of_Q k3 hres) k1 k2 k4
  · have hs1 := k1.sm
    have hq:n.toNat≤n'.toNat := by rw [k2.q,zgr hs1]; omega
    rcases k4 with k4 | k4
    · rcases Rc.of_Hf k1 k2 k4 hres with k6 | k6
      · exact fin V n e k6 k1 (Nat.le_trans hq k3) fun a ha=>(k5 a ha).1
      · exact fin V' n' e' k6 (k2.jv (by omega)) k3 fun a ha=>(k5 a ha).2
    · exact fin V' n' e' (Rc.of_Fu (k2.ne hs1) k4 hres) (k2.jv (by omega)) k3 fun a ha=>(k5 a ha).2
end
end Go.Proofs.Ts
namespace Go.Proofs.Ts
open Go.VG
def spanK (val:IfH) (R:HP) (d st len:Nat):Kid where
  sz := len
  zk := true
  val := val
  H s nw cd := star [pur (∀ a,a < len→Go.Proofs.now s d (st + a)=nw a∧nw a ∈ cd a ∧ ∀ c,c ∈ Go.Proofs.cand s d (st + a)→c ∈ cd a),R]
  Cr := (Nd.span d st len).Cr
  fp := (Nd.span d st len).fp
theorem wr_w0 {s:ArrS} {d a:Int} {v:UInt64} (h:wrR s d a=0):(wrS s d a v).writes=s.writes + 1 := by
  unfold wrR at h
  unfold wrS
  by_cases h1:wrC s d a≠0
  · rw [if_pos h1] at h; exact absurd h h1
  · rw [if_neg h1] at h ⊢
    by_cases h2:s.fuse=1
    · rw [if_pos h2] at h; cases h
    · rw [if_neg h2]
theorem wr_w1 {s:ArrS} {d a:Int} {v:UInt64} : s.writes≤(wrS s d a v).writes := by
  unfold wrS
  by_cases h1:wrC s d a≠0
  · rw [if_pos h1]; exact Nat.le_refl _
  · rw [if_neg h1]
    by_cases h2:s.fuse=1
    · rw [if_pos h2]; exact Nat.le_refl _
    · rw [if_neg h2]; exact Nat.le_succ _
theorem fl_w {s:ArrS} {d:Int} : (flS s d).writes=s.writes := by
  unfold flS
  split <;> rfl
theorem zt8 {s:ArrS} {e b:Nat} (hc:Coh s) (hb:¬ b < s.size e):dur s e b=0 := by
  have h1 := hc.len e
  rw [zdj] at hb
  unfold dur List.getD
  rw [List.getElem?_eq_none (by omega)]; rfl
theorem z0y {s:ArrS} {d e b:Nat} {c:UInt64} (hc:Coh s) (hd:d < s.drv.length) (h:c ∈ Go.Proofs.cand (fl1 s d) e b):c ∈ Go.Proofs.cand s e b := by
  have h1:c=dur (fl1 s d) e b∨c ∈ pend (fl1 s d) e b := List.mem_cons.1 h
  by_cases hb:b < s.size e
  · rw [zpz hc hd hb,zkx] at h1
    by_cases he:e=d
    · rw [if_pos he,if_pos he] at h1
      rcases h1 with h1 | h1
      · rw [h1, ← hc.last e b hb]; exact zqy
      · cases h1
    · rw [if_neg he,if_neg he] at h1
      exact List.mem_cons.2 h1
  · rw [zt8 (hc.fl1 hd) (by rw [ziu hd]; exact hb),zkx] at h1
    rcases h1 with h1 | h1
    · rw [h1, ← zt8 hc hb]; exact List.mem_cons_self ..
    · split at h1
      · cases h1
      · exact List.mem_cons_of_mem _ h1
section
variable {b:Nat} {ns:List Nat} {val:IfH} {R:HP} {d st len:Nat}
theorem zt9 {s:ArrS} {cd:Nat→List UInt64} (h:∀ a,a < len → ∀ c,c ∈ Go.Proofs.cand s d (st + a)→c ∈ cd a):(Nd.span d st len).Cr s cd := fun s1 _ hs =>
  ⟨fun a=>Go.Proofs.now s1 d (st + a),fun a ha=>⟨rfl,(hs d (st + a) ⟨rfl,by omega,by omega⟩).2⟩,fun a ha=>h a ha _ (hs d (st + a) ⟨rfl,by omega,by have:a < len := ha; omega⟩).1⟩
theorem zee {s:ArrS} {nw:Nat→UInt64} {cd:Nat→List UInt64} {F:List HP} {p:PH} (h:stars ((spanK val R d st len).H s nw cd::F) p):(∀ a,a < len→Go.Proofs.now s d (st + a)=nw a∧nw a ∈ cd a ∧ ∀ c,c ∈ Go.Proofs.cand s d (st + a)→c ∈ cd a)∧stars (R::F) p :=
  stars_pur.1 (stars_star.1 h)
theorem zdw {s:ArrS} {nw:Nat→UInt64} {cd:Nat→List UInt64} {F:List HP} {p:PH} (h:∀ a,a < len→Go.Proofs.now s d (st + a)=nw a∧nw a ∈ cd a ∧ ∀ c,c ∈ Go.Proofs.cand s d (st + a)→c ∈ cd a) (hp:stars (R::F) p):stars ((spanK val R d st len).H s nw cd::F) p :=
  stars_star.2 (stars_pur.2 ⟨h,hp⟩)
theorem zjq (hd:DevOk b (Dvc.span (d:Int) (st:Int) (len:Int)) val R) (hdn:d < ns.length) (hl:st + len≤ns.getD d 0) (hb:ns.getD d 0≤100000):KidOk Tryz.prog b ns 1 0 1 (spanK val R d st len) where
  depb := by decide
  szb := by show len≤100000; omega
  na := fun n hn=>hd.nil n (by omega)
  size := by
    intro W s nw cd n hn F w hs
    obtain ⟨gg,hgg⟩ := hs.heap
    obtain ⟨h1,h2⟩ := zee (zbx hgg)
    obtain ⟨f,r,ha,hb',hc⟩ := hd.size (W:=W) (s:=s) (r:=(len:Int)) rfl n hn F w ⟨hs.os,hs.tape,hs.output,gg,h2⟩
    refine ⟨f,r,ha,hb',hc.mono ?_⟩
    rintro e w' ⟨_,q1,q2,q3⟩
    exact ⟨(),q1,trivial,q3.imp fun p hp=>zbx (zdw h1 hp)⟩
  rd := by
    intro W s nw cd k a safe he ha _ n hn F w hs
    have ha':a < len := ha
    obtain ⟨gg,hgg⟩ := hs.heap
    obtain ⟨h1,h2⟩ := zee (zbx hgg)
    obtain ⟨k1,k2⟩ := he.ok.rdA (d:=d) (a:=st + a) he.dn hdn (by omega) (he.ms d)
    have e0:(Dvc.span (d:Int) (st:Int) (len:Int)).rd s (a:Int)=some (nw a,0) := by
      rw [span_rd (by omega) (by omega),if_pos (by omega),show (st:Int) + (a:Int)=((st + a:Nat):Int) by omega,k1,k2,(h1 a ha').1]
    obtain ⟨f,r,hx,hy,hc⟩ := hd.rd (W:=W) e0 n hn F w ⟨hs.os,hs.tape,hs.output,gg,h2⟩
    refine ⟨f,r,hx,hy,hc.mono ?_⟩
    rintro e w' ⟨_,q1,q2,q3⟩
    exact ⟨(true,s),q1,⟨⟨he,Out.refl,(fun x=>by cases x)⟩,(fun x=>by cases x),fun _ h=>h⟩,q3.imp fun p hp=>zbx (zdw h1 hp)⟩
  wr := by
    intro W s nw cd k a v safe he ha hk n hn F w hs
    have ha':a < len := ha
    have hkb := he.kb
    obtain ⟨gg,hgg⟩ := hs.heap
    obtain ⟨h1,h2⟩ := zee (zbx hgg)
    have hw := he.ok.wr
    have e1:(st:Int) + (a:Int)=((st + a:Nat):Int) := by omega
    have e0:(Dvc.span (d:Int) (st:Int) (len:Int)).wr s (a:Int) v=some (wrR s (d:Int) ((st + a:Nat):Int),wrS s (d:Int) ((st + a:Nat):Int) v) := by
      rw [span_wr (by omega) (by omega) (by omega),if_pos (by omega),e1]
    obtain ⟨f,r,hx,hy,hc⟩ := hd.wr (W:=W) e0 n hn F w ⟨hs.os,hs.tape,hs.output,gg,h2⟩
    refine ⟨f,r,hx,hy,hc.mono ?_⟩
    rintro e w' ⟨_,q1,q2,q3⟩
    have fpn:∀ e b, ¬ (Nd.span d st len).fp e b → ¬ (d=e∧st + a=b) := fun e b hf x=>hf ⟨x.1.symm,by omega,by omega⟩
    rcases he.ok.wrA (v:=v) (d:=d) (a:=st + a) (by omega) he.dn hdn (by omega) (he.ms d) with ⟨g1,g2,g3⟩ | ⟨g1,g2,g3⟩
    · rw [g2] at q1
      refine ⟨(true,wrS s (d:Int) ((st + a:Nat):Int) v),q1,⟨⟨⟨by omega,?_,g3.dn,?_,?_⟩,⟨wr_w1,fun e b hf=>⟨?_,?_⟩⟩,(fun x=>by cases x)⟩,(fun x=>by cases x),(fun _ hz hv e b => ?_),fun _=>by rw [wr_w0 g2]; exact Nat.le_refl _⟩,q3.imp fun p hp=>zbx (zdw (fun a2 ha2 => ?_) hp)⟩
      · exact g3.ok.mono (by omega)
      · intro hs; rw [g3.fuse,he.fu hs]
      · intro e; rw [g3.miss]; exact he.ms e
      · rw [g3.now,if_neg (fpn e b hf)]
      · intro c hc'; rw [g3.cand,if_neg (fpn e b hf)] at hc'; exact hc'
      · rw [g3.now,g3.cand]
        by_cases x:d=e∧st + a=b
        · rw [if_pos x,if_pos x]
          refine ⟨hv,fun c hc' => ?_⟩
          rcases List.mem_append.1 hc' with y | y
          · exact (hz e b).2 c y
          · rw [List.mem_singleton.1 y,hv]
        · rw [if_neg x,if_neg x]; exact hz e b
      · rw [g3.now,g3.cand]
        unfold nput cput
        by_cases x:a=a2
        · subst x
          simp only [and_self,if_true]
          refine ⟨trivial,List.mem_append.2 (.inr (List.mem_singleton.2 rfl)),fun c hc' => ?_⟩
          rcases List.mem_append.1 hc' with y | y
          · exact List.mem_append.2 (.inl ((h1 a ha').2.2 c y))
          · exact List.mem_append.2 (.inr y)
        · have x3:¬ st + a=st + a2 := by omega
          simp only [true_and,if_neg x3,if_neg x]
          exact h1 a2 ha2
    · rw [g2] at q1
      refine ⟨(false,wrS s (d:Int) ((st + a:Nat):Int) v),q1,⟨⟨⟨by omega,g3.ok.mono (by omega),g3.dn,?_,?_⟩,⟨wr_w1,fun e b _=>⟨g3.now e b,fun c hc' => by rw [g3.cand] at hc'; exact hc'⟩⟩,fun _ => ?_⟩,(fun _=>zt9 fun a2 ha2 c hc' => ?_),(fun _ hz _ e b=>by rw [g3.now,g3.cand]; exact hz e b),(fun x=>by cases x)⟩,q3.imp fun p hp=>zas (fun q hq=>(stars_star (Hs:=[])).2 (zby hq)) (zbx hp)⟩
      · intro hs; have := he.fu hs; omega
      · intro e; rw [g3.miss]; exact he.ms e
      · cases hsf:safe
        · rfl
        · have := he.fu hsf; omega
      · rw [g3.cand] at hc'
        have y := (h1 a2 ha2).2.2 c hc'
        unfold cput
        split
        · exact List.mem_append.2 (.inl y)
        · exact y
  fl := by
    intro W s nw cd k safe he n hn F w hs
    have hkb := he.kb
    obtain ⟨gg,hgg⟩ := hs.heap
    obtain ⟨h1,h2⟩ := zee (zbx hgg)
    have hw := he.ok.wr
    obtain ⟨g1,g2⟩ := he.ok.flA (d:=d) he.dn hdn (he.ms d)
    have e0:(Dvc.span (d:Int) (st:Int) (len:Int)).fl s=some (0,flS s (d:Int)) := by rw [zt0 (by omega),g1]
    obtain ⟨f,r,hx,hy,hc⟩ := hd.fl (W:=W) e0 n hn F w ⟨hs.os,hs.tape,hs.output,gg,h2⟩
    refine ⟨f,r,hx,hy,hc.mono ?_⟩
    rintro e w' ⟨_,q1,q2,q3⟩
    have hdd := he.ok.disk hdn
    have e5:flS s (d:Int)=fl1 s d := zr9 g1
    have hcf:∀ e b c,c ∈ Go.Proofs.cand (flS s (d:Int)) e b→c ∈ Go.Proofs.cand s e b := fun e b c h=>by rw [e5] at h; exact z0y he.ok.coh hdd h
    refine ⟨flS s (d:Int),q1,⟨⟨⟨he.kb,g2.ok,g2.dn,fun hs=>by rw [g2.fuse]; exact he.fu hs,fun e=>by rw [g2.miss]; exact he.ms e⟩,⟨by rw [fl_w]; exact Nat.le_refl _,fun e b _=>⟨g2.now e b,hcf e b⟩⟩,(fun x=>by cases x)⟩,fun _ hz e b=>⟨by rw [g2.now]; exact (hz e b).1,fun c hc' => (hz e b).2 c (hcf e b c hc')⟩⟩,q3.imp fun p hp=>zbx (zdw (fun a ha => ?_) hp)⟩
    have h5 := g2.cand d (st + a) hdn (by omega)
    rw [if_pos rfl] at h5
    refine ⟨by rw [g2.now]; exact (h1 a ha).1,List.mem_singleton.2 rfl,fun c hc' => ?_⟩
    rw [h5] at hc'
    rw [List.mem_singleton.1 hc',(h1 a ha).1]
    exact List.mem_singleton.2 rfl
  fr := by
    intro s s' nw cd R' hi p hp
    obtain ⟨h1,h2⟩ := zee hp
    refine zdw (fun a ha => ?_) h2
    have hk := hi.2 d (st + a) ⟨rfl,by omega,by omega⟩
    exact ⟨hk.1.trans (h1 a ha).1,(h1 a ha).2.1,fun c hc=>(h1 a ha).2.2 c (hk.2 c hc)⟩
  frC hi h := Nd.Cr.frame hi h
  cr h hp := zt9 fun a ha=>((zee hp).1 a ha).2.2
  nc h hp a ha := ((zee hp).1 a ha).2.1
  zv h hp _ hz a ha := by rw [← ((zee hp).1 a ha).1]; exact (hz d (st + a)).1
end
end Go.Proofs.Ts
set_option linter.unusedSimpArgs false
set_option maxRecDepth 20000
namespace Go.Proofs
open Go.VG Ts
theorem zl8 (v0:TypeId) (v1:Value) (v2:Int) (v3:Int):∀ w,(Instr.build 151 (#[(0,.iface v0 v1),(1,.int .i64 v2),(2,.int .i64 v3)]:Array (Nat × Value))).run Tryz.prog w = .ok (.agg #[.iface v0 v1,.int .i64 v2,.int .i64 v3]) w := fun w=>by kernel_rfl
theorem z0z {W:World} {B:TS→HP} {L dep rc wc:Nat} {sz:Nat→Nat} {val:Nat→IfH} (hB:BaseOk Tryz.prog B L dep rc wc sz val) {t:TS} {q st len a:Nat} (hL:0 < L) (hd:t.dn=false) (hl:st + len≤sz 0) (hz:sz 0≤100000) (ha:a < len) (hk:rc≤t.k) :
    CSpec Tryz.prog W 309 [ptr q 0,.int .i64 (a:Int)] [B t,blk q 151 [(val 0).v,.int .i64 (st:Int),.int .i64 (len:Int)]] (fun ok:Bool => .tuple #[.int .u64 ((if ok then Ts.now t 0 (st + a) else 0:UInt64).toNat:Int),.int .i64 (if ok then 0 else 5)]) (fun ok=>ok=false→t.safe=false) (fun ok F=>B (t.rdS rc ok)::blk q 151 [(val 0).v,.int .i64 (st:Int),.int .i64 (len:Int)]::F) := by
 refine CSpec.of_body Tryz.func309 rfl Tryz.ntmps309 rfl fun F => ?_
 show CJ _ _ _ _ _ _ (_::_::F)
 refine sR<|oA rfl<|oA rfl<|nT<|zab<|sR<|oM rfl<|oP (zad rfl)<|oP (zaa rfl ⟨_,_,_,Tryz.runUnderlying151,rfl,rfl,Tryz.sizeOf3,rfl⟩)<|oV (zac rfl foc1 rfl Tryz.isAgg3)<|oM rfl<|oO<|zai (zct (zio (by omega))) rfl Tryz.call50 Dels.nil rfl fun _ hc1=>oP (P_not rfl)<|nT<|zap rfl (by first | exact decide_eq_false (by simp; omega) | (simp; omega))<|kT<|zab<|za3 4096 kR_ rfl<|aN 0 1 rfl rfl (zae rfl)<|aN 1 3 rfl rfl (zad rfl)<|aN 2 7 rfl rfl (zaa rfl ⟨_,_,_,Tryz.runUnderlying151,rfl,rfl,Tryz.sizeOf38,rfl⟩)<|aW 3 15 rfl rfl r_ (zac rfl foc1 rfl Tryz.isAgg38)<|aN 4 31 rfl rfl (zae rfl)<|aN 5 63 rfl rfl (zad rfl)<|aN 6 127 rfl rfl (zaa rfl ⟨_,_,_,Tryz.runUnderlying151,rfl,rfl,Tryz.sizeOf3,rfl⟩)<|aW 7 255 rfl rfl r_ (zac rfl foc1 rfl Tryz.isAgg3)<|aN 8 511 rfl rfl (zae rfl)<|aN 9 1023 rfl rfl (P_add rfl rfl (by omega))<|aN 10 2047 rfl rfl (znk rfl)<|aN 11 4095 rfl rfl (zae rfl)<|AJ_op 12 8191 rfl kR_ rfl (zal rfl)<|zbz rfl (IOk.call (hB.rd (i:=0) (a:=(st + a)) hL (by omega) hd hk) (Nat.le_trans hB.depb (by decide))) rfl (dC_ del0) rfl fun o2 ho3=>⟨fun h=>absurd h (by decide),?_⟩
 refine aN 13 16383 rfl rfl (zaj rfl rfl)<|aN 14 32767 rfl rfl (zaj rfl rfl)<|aN 15 65535 rfl rfl (za9 rfl)<|aN 16 131071 rfl rfl (za9 rfl)<|aD<|zaf<|zan (res2 Tryz.results309 rfl rfl)<|CSpec.close o2 ?_ ?_ r_
 · rfl
 · exact ho3
theorem zx9 {W:World} {B:TS→HP} {L dep rc wc:Nat} {sz:Nat→Nat} {val:Nat→IfH} (hB:BaseOk Tryz.prog B L dep rc wc sz val) {t:TS} {q st len a:Nat} (hL:0 < L) (hd:t.dn=false) (hl:st + len≤sz 0) (hz:sz 0≤100000) (ha:a < len) {v:UInt64} (hk:wc≤t.k) :
    CSpec Tryz.prog W 311 [ptr q 0,.int .i64 (a:Int),.int .u64 (v.toNat:Int)] [B t,blk q 151 [(val 0).v,.int .i64 (st:Int),.int .i64 (len:Int)]] (fun ok:Bool => .int .i64 (if ok then 0 else 5)) (fun ok=>ok=false→t.safe=false) (fun ok F=>B (t.wrS wc 0 (st + a) v ok)::blk q 151 [(val 0).v,.int .i64 (st:Int),.int .i64 (len:Int)]::F) := by
 refine CSpec.of_body Tryz.func311 rfl Tryz.ntmps311 rfl fun F => ?_
 show CJ _ _ _ _ _ _ (_::_::F)
 refine sR<|oA rfl<|nT<|zab<|sR<|oM rfl<|oP (zad rfl)<|oP (zaa rfl ⟨_,_,_,Tryz.runUnderlying151,rfl,rfl,Tryz.sizeOf3,rfl⟩)<|oV (zac rfl foc1 rfl Tryz.isAgg3)<|oM rfl<|oO<|zai (zct (zio (by omega))) rfl Tryz.call50 Dels.nil rfl fun _ hc1=>oP (P_not rfl)<|nT<|zap rfl (by first | exact decide_eq_false (by simp; omega) | (simp; omega))<|kT<|zab<|za3 8192 kR_ rfl<|aN 0 1 rfl rfl (zae rfl)<|aN 1 3 rfl rfl (zad rfl)<|aN 2 7 rfl rfl (zaa rfl ⟨_,_,_,Tryz.runUnderlying151,rfl,rfl,Tryz.sizeOf38,rfl⟩)<|aW 3 15 rfl rfl r_ (zac rfl foc1 rfl Tryz.isAgg38)<|aN 4 31 rfl rfl (zae rfl)<|aN 5 63 rfl rfl (zad rfl)<|aN 6 127 rfl rfl (zaa rfl ⟨_,_,_,Tryz.runUnderlying151,rfl,rfl,Tryz.sizeOf3,rfl⟩)<|aW 7 255 rfl rfl r_ (zac rfl foc1 rfl Tryz.isAgg3)<|aN 8 511 rfl rfl (zae rfl)<|aN 9 1023 rfl rfl (P_add rfl rfl (by omega))<|aN 10 2047 rfl rfl (zae rfl)<|aN 11 4095 rfl rfl (znk rfl)<|aN 12 8191 rfl rfl (zae rfl)<|AJ_op 13 16383 rfl kR_ rfl (zal rfl)<|zbz rfl (IOk.call (hB.wr (i:=0) (a:=(st + a)) (v:=v) hL (by omega) hd hk) (Nat.le_trans hB.depb (by decide))) rfl (dC_ del0) rfl fun o2 ho3=>⟨fun h=>absurd h (by decide),?_⟩
 refine aN 14 32767 rfl rfl (za9 rfl)<|aD<|zaf<|zan (res1 Tryz.results311 rfl)<|CSpec.close o2 ?_ ?_ r_
 · rfl
 · exact ho3
theorem z00 {W:World} {d:IfH} {q st len:Nat} :
    CSpec Tryz.prog W 310 [ptr q 0] [blk q 151 [d.v,.int .i64 (st:Int),.int .i64 (len:Int)]] (fun _:Unit => .int .i64 (len:Int)) (fun _=>True) (fun _ F=>blk q 151 [d.v,.int .i64 (st:Int),.int .i64 (len:Int)]::F) := by
 refine CSpec.of_body Tryz.func310 rfl Tryz.ntmps310 rfl fun F => ?_
 show CJ _ _ _ _ _ _ (_::F)
 refine sR<|oA rfl<|nT<|sR<|oM rfl<|oP (zad rfl)<|oP (zaa rfl ⟨_,_,_,Tryz.runUnderlying151,rfl,rfl,Tryz.sizeOf3,rfl⟩)<|oV (zac rfl foc0 rfl Tryz.isAgg3)<|oA rfl<|nT<|zaf<|zan (res1 Tryz.results310 rfl)<|CSpec.close () ?_ ?_ r_
 · rfl
 · trivial
theorem zya {W : World} {X : HP} {L dep : Nat} {sz : Nat → Nat} {val : Nat → IfH} (hdp : dep ≤ 60) (hS : ∀ {W : World} (i : Nat), i < L → IOk Tryz.prog W dep (val i) "Size" [] [X] (fun _ : Unit => .int .i64 (sz i : Int)) (fun _ => True) (fun _ F => X :: F)) {st len : Nat} (hL : 0 < L) (hl : st + len ≤ sz 0) (hz : sz 0 ≤ 100000) :
    CSpec Tryz.prog W 24 [(val 0).v,.int .i64 (st:Int),.int .i64 (len:Int)] [X] (fun q:Nat => .tuple #[.iface 149 (ptr q 0),.int .i64 0]) (fun _=>True) (fun q F=>X::blk q 151 [(val 0).v,.int .i64 (st:Int),.int .i64 (len:Int)]::F) := by
 refine CSpec.of_body Tryz.func24 rfl Tryz.ntmps24 rfl fun F => ?_
 show CJ _ _ _ _ _ _ (_::F)
 refine sR<|oA rfl<|oA rfl<|nT<|zab<|sR<|oM rfl<|oO<|zbz rfl (IOk.call (hS 0 hL) (Nat.le_trans hdp (by decide))) rfl (dC_ del0) rfl fun o1 ho2=>oM rfl<|oM rfl<|oO<|zai (zct (zn2 (by omega) (by omega))) rfl Tryz.call50 Dels.nil rfl fun _ hc3=>oP (P_not rfl)<|nT<|zap rfl rfl<|kT<|sR<|oM rfl<|oM rfl<|oM rfl<|oP (zbk rfl (zl8 _ _ _ _))<|oO<|O_box rfl rfl rfl fun b4=>oP (zdu rfl Tryz.runUnderlying149 (by intro ms h; cases h))<|oA rfl<|oA rfl<|nT<|zaf<|zan (res2 Tryz.results24 rfl rfl)<|CSpec.close b4 ?_ ?_ (t1_ r_)
 · rfl
 · trivial
end Go.Proofs
namespace Go.Proofs.Ts
open Go.VG
theorem IOk.map {P:Program} {W:World} {k:Nat} {h:IfH} {name:String} {args:List Value} {pre:List HP} {X Y:Type} {res:X→Value} {pf:X→Prop} {post:X→List HP→List HP} {res':Y→Value} {pf':Y→Prop} {post':Y→List HP→List HP} (f:X→Y)
    (hm:IOk P W k h name args pre res pf post) (h1:∀ x,res x=res' (f x)) (h2:∀ x,pf x→pf' (f x)) (h3:∀ x F,Ent (post x F) (post' (f x) F)):IOk P W k h name args pre res' pf' post' := by
  intro n hn F w hs
  obtain ⟨g,r,ha,hb,hc⟩ := hm n hn F w hs
  exact ⟨g,r,ha,hb,hc.mono fun e w' ⟨x,hx,hp,hs'⟩=>⟨f x,by rw [hx,h1],h2 x hp,hs'.imp (h3 x F)⟩⟩
theorem Par.rd {t:TS} {c:Nat} {ok:Bool} : Par t (t.rdS c ok) c := by cases ok <;> exact ⟨rfl,Nat.le_refl _⟩
theorem Par.wr {t:TS} {c i a:Nat} {v:UInt64} {ok:Bool} : Par t (t.wrS c i a v ok) c := by cases ok <;> exact ⟨rfl,Nat.le_refl _⟩
theorem zsk {t:TS} {c:Nat} {ok:Bool} (h:t.dn=false):(t.rdS c ok).dn = !ok := by cases ok; rfl; exact h
theorem zwe {t:TS} {c i a:Nat} {v:UInt64} {ok:Bool} (h:t.dn=false):(t.wrS c i a v ok).dn = !ok := by cases ok; rfl; exact h
theorem rdS_z {t:TS} {c:Nat} {ok:Bool} (h:t.z=true):(t.rdS c ok).z=true := by cases ok <;> exact h
theorem wrS_z {t:TS} {c i a:Nat} {v:UInt64} {ok:Bool} (h:t.z=true) (hv:v=0):(t.wrS c i a v ok).z=true := by
  subst hv
  cases ok <;> (show (t.z && decide ((0:UInt64)=0))=true; rw [h]; rfl)
end Go.Proofs.Ts
set_option linter.unusedSimpArgs false
set_option maxRecDepth 20000
namespace Go.Proofs
open Go.VG Ts
section
variable {B:TS→HP} {L dep rc wc:Nat} {sz:Nat→Nat} {val:Nat→IfH} {st len q:Nat}
theorem zyb {W : World} {d : IfH} {R : List HP} {name : String} (hn : name = "Flush") (n : Nat) (w : World) (hs : St W w (blk q 151 [d.v, .int .i64 (st : Int), .int .i64 (len : Int)] :: R)) : (method (n + 1) 149 (ptr q 0) name).run Tryz.prog w = (method n d.t d.u name).run Tryz.prog w := by
  subst hn
  have hc := znj (i:=0) hs.blk
  have hl := zrz (P:=Tryz.prog) (T:=38) (a:=⟨q,0,none⟩) (v:=IfH.v d) (Tryz.isAgg38 w) (by rw [hc]; rfl)
  have hm : (method (n + 1) 149 (ptr q 0) "Flush").run Tryz.prog w = ((loadVar 38 ⟨q, 0, none⟩ >>= fun y => match y with | .iface t' v' => method n t' v' "Flush" | .nilIface => runtimePanic .nilDeref | _ => stuck "method row: interface value expected" : Sem (FuncId × Value))).run Tryz.prog w := by kernel_rfl
  rw [hm]; simp only [Sem.run_bind,hl,Result.andThen_ok]
theorem zyc (hB:BaseOk Tryz.prog B L dep rc wc sz val) (hL:0 < L) (hdep:dep < 60) (hl:st + len≤sz 0) (zk:Bool) :
    NodeC Tryz.prog B (M:=Unit) (fun _=>blk q 151 [(val 0).v,.int .i64 (st:Int),.int .i64 (len:Int)]) ⟨149,ptr q 0⟩ (dep + 1) rc wc len zk (fun t _ nw cd=>relM (fun _=>0) (fun a=>st + a) len t nw cd) (relMD (fun _=>0) (fun a=>st + a) len) where
  depb := by omega
  szb := by have := hB.szb 0 hL; omega
  na := fun n hn w=>by
    obtain ⟨m,rfl⟩:∃ m,n=m + 1 := ⟨n - 1,by omega⟩
    kernel_rfl
  size := IOk.of (fun n w=>by kernel_rfl) Tryz.call310 z00
  rd := by
    intro W t m nw cd a hr hd ha hk
    have hz := hB.szb 0 hL
    refine IOk.map (fun ok:Bool=>((ok,t.rdS rc ok,()):Bool × TS × Unit)) (IOk.of (fun n w=>by kernel_rfl) Tryz.call309 (z0z hB hL hd hl hz ha hk)) (fun ok => ?_) (fun ok h => ?_) (fun ok F => ?_)
    · cases ok
      · rfl
      · show _=Value.tuple #[.int .u64 ((nw a).toNat:Int),.int .i64 0]
        rw [(hr a ha).1]; rfl
    · refine ⟨fun h1 => ?_,fun h1=>⟨?_,h h1⟩,zsk hd,Par.rd,fun _ hz=>rdS_z hz⟩
      · have h2:ok=true := h1
        subst h2; exact hr.ext rfl rfl
      · have h2:ok=false := h1
        subst h2; exact hr.ud
    · cases ok
      · exact Ent.take del0 (fun p hp=>(stars_star (Hs:=[])).2 (zby hp))
      · exact Ent.refl
  wr := by
    intro W t m nw cd a v hr hd ha hk
    have hz := hB.szb 0 hL
    have hput:relM (fun _=>0) (fun a=>st + a) len (t.put 0 (st + a) v) (nput nw a v) (cput cd a v) := relM.put (lg:=fun _=>0) (off:=fun a=>st + a) (fun a b _ _ _ h=>by omega) hr ha
    refine IOk.map (fun ok:Bool=>((ok,t.wrS wc 0 (st + a) v ok,()):Bool × TS × Unit)) (IOk.of (fun n w=>by kernel_rfl) Tryz.call311 (zx9 hB hL hd hl hz ha hk)) (fun ok=>rfl) (fun ok h => ?_) (fun ok F => ?_)
    · refine ⟨fun h1 => ?_,fun h1=>⟨?_,h h1⟩,zwe hd,Par.wr,fun _ hz hv=>wrS_z hz hv,fun h1 => ?_⟩
      · have h2:ok=true := h1
        subst h2; exact hput.ext rfl rfl
      · have h2:ok=false := h1
        subst h2; exact hput.ud
      · have h2:ok=true := h1
        subst h2; exact Nat.le_refl _
    · cases ok
      · exact Ent.take del0 (fun p hp=>(stars_star (Hs:=[])).2 (zby hp))
      · exact Ent.refl
  fl := by
    intro W t m nw cd hr hd
    refine IOk.prom (h' := val 0) (fun n F w hs=>zyb rfl n w (hs.imp fun p hp=>zbx hp)) ?_
    refine IOk.map (fun _:Unit=>((t.fls 0,()):TS × Unit)) (IOk.conseq (G:=[blk q 151 [(val 0).v,.int .i64 (st:Int),.int .i64 (len:Int)]]) (hB.fl (i:=0) hL hd) (fun F=>Ent.refl) (fun _ F=>Ent.refl)) (fun _=>rfl) (fun _ _ => ?_) (fun _ F=>Ent.refl)
    refine ⟨?_,hd,⟨rfl,Nat.le_refl _⟩,fun _ h=>h⟩
    exact fun a ha=>⟨(hr a ha).1,List.mem_singleton.2 rfl,fun c hc=>by
      have h1:c ∈ (if 0=0 then [t.nw 0 (st + a)] else t.cd 0 (st + a)) := hc
      rw [if_pos rfl] at h1
      rw [List.mem_singleton.1 h1]
      exact List.mem_singleton.2 (hr a ha).1.symm⟩
  ext h h1 h2 _ := h.ext h1 h2
  ud h := h.ud
  nc h a ha := h.nc ha
end
end Go.Proofs
namespace Go.Proofs.Ts
open Go.VG
theorem BaseOk.vals {P:Program} {B:TS→HP} {L dep rc wc:Nat} {sz:Nat→Nat} {val val':Nat→IfH} (h:BaseOk P B L dep rc wc sz val) (e:∀ i,i < L→val' i=val i):BaseOk P B L dep rc wc sz val' where
  depb := h.depb
  szb := h.szb
  na i hi := by rw [e i hi]; exact h.na i hi
  size hi := by rw [e _ hi]; exact h.size hi
  rd hi := by rw [e _ hi]; exact h.rd hi
  wr hi := by rw [e _ hi]; exact h.wr hi
  fl hi := by rw [e _ hi]; exact h.fl hi
  wb := h.wb
  nc := h.nc
  zv := h.zv
def TS.flsN (t:TS):Nat→TS
  | 0=>t
  | n + 1=>(t.flsN n).fls n
section
variable {t:TS} {e b:Nat}
theorem zp2:∀ n,(t.flsN n).nw=t.nw
  | 0=>rfl
  | n + 1=>zp2 n
theorem zgy:∀ n,(t.flsN n).dn=t.dn
  | 0=>rfl
  | n + 1=>zgy n
theorem zqz:∀ n,(t.flsN n).safe=t.safe
  | 0=>rfl
  | n + 1=>zqz n
theorem zwf:∀ n,(t.flsN n).k=t.k
  | 0=>rfl
  | n + 1=>zwf n
theorem zsl:∀ n,(t.flsN n).z=t.z
  | 0=>rfl
  | n + 1=>zsl n
theorem zwg:∀ n,(t.flsN n).w=t.w
  | 0=>rfl
  | n + 1=>zwg n
theorem zua:∀ n,(t.flsN n).cd e b=if e < n then [t.nw e b] else t.cd e b
  | 0=>by rw [if_neg (by omega)]; rfl
  | n + 1=>by
    have h:(t.flsN (n + 1)).cd e b=if n=e then [(t.flsN n).nw e b] else (t.flsN n).cd e b := rfl
    rw [h,zp2,zua n]
    by_cases h1:n=e
    · rw [if_pos h1,if_pos (by omega)]
    · rw [if_neg h1]
      by_cases h2:e < n
      · rw [if_pos h2,if_pos (by omega)]
      · rw [if_neg h2,if_neg (by omega)]
theorem Par.flsN {n:Nat} : Par t (t.flsN n) 0 := ⟨zqz n,by rw [zwf]; exact Nat.le_refl _⟩
theorem relM.flsN {lg off:Nat→Nat} {sz n:Nat} {nw:Nat→UInt64} {cd:Nat→List UInt64} (h:relM lg off sz t nw cd) (hl:∀ a,a < sz→lg a < n):relM lg off sz (t.flsN n) nw (fun a=>[nw a]) := fun a ha=>by
  have h1 := (h a ha).1
  refine ⟨?_,List.mem_singleton.2 rfl,fun c hc => ?_⟩
  · unfold now; rw [zp2]; exact h1
  · unfold cand at hc
    rw [zua,if_pos (hl a ha)] at hc
    rw [List.mem_singleton.1 hc]
    exact List.mem_singleton.2 h1.symm
end
end Go.Proofs.Ts
namespace Go.VG
def FOk (P:Program) (W:World) (fv:Value) (args:List Value) (pre:List HP) {X:Type} (res:X→Value) (pf:X→Prop) (post:X→List HP→List HP):Prop :=
  ∃ (f:FuncId) (first cap:List Value),fv = .func (.func f) first.toArray cap.toArray∧zgf P f∧CSpec P W f (first ++ args ++ cap) pre res pf post
theorem FOk.mk {P:Program} {W:World} {f:FuncId} {first cap args:List Value} {pre:List HP} {X:Type} {res:X→Value} {pf:X→Prop} {post:X→List HP→List HP} (he:zgf P f) (hc:CSpec P W f (first ++ args ++ cap) pre res pf post):FOk P W (.func (.func f) first.toArray cap.toArray) args pre res pf post :=
  ⟨f,first,cap,rfl,he,hc⟩
section
variable {P:Program} {n:Env} {W:World} {s:Slots} {H:List HP} {K:Slots→List HP→Prop} {d:Nat} {ty:TypeId} {pos:String} {after:Array Edge} {g:Option (Nat × Bool)}
theorem zgz {fo:Operand} {fv:Value} {xs:List Operand} {ats:Array TypeId} {vs:List Value} {pre F:List HP} {X:Type} {res:X→Value} {pf:X→Prop} {post:X→List HP→List HP}
    (hfo:ev s fo=some fv) (hv:evs s xs=some vs) (hc:FOk P W fv vs pre res pf post) (hdel:Dels H pre F) (hd:Nat.blt d n.n=true)
    (hk:∀ x,pf x→K ((d,res x)::s) (post x F)) :
    OJ P n W ⟨some d,.call { callee := .value fo,args := xs.toArray,argTypes := ats },ty,pos,after,g⟩ s H K := by
  obtain ⟨f,first,cap,rfl,he,hc⟩ := hc
  exact zdz hfo hv hc he hdel hd hk
theorem CSpec.conseq {f:FuncId} {args:List Value} {pre pre' G:List HP} {X:Type} {res:X→Value} {pf:X→Prop} {post post':X→List HP→List HP} (hm:CSpec P W f args pre res pf post) (h1:∀ F,Ent (pre' ++ F) (pre ++ (G ++ F))) (h2:∀ x F,Ent (post x (G ++ F)) (post' x F)):CSpec P W f args pre' res pf post' := fun F w hs =>
  (hm (G ++ F) w (hs.imp (h1 F))).mono fun _ _ ⟨x,hx,hp,hs'⟩=>⟨x,hx,hp,hs'.imp (h2 x F)⟩
theorem CSpec.map {f:FuncId} {args:List Value} {pre:List HP} {X Y:Type} {res:X→Value} {pf:X→Prop} {post:X→List HP→List HP} {res':Y→Value} {pf':Y→Prop} {post':Y→List HP→List HP} (φ:X→Y)
    (hm:CSpec P W f args pre res pf post) (h1:∀ x,res x=res' (φ x)) (h2:∀ x,pf x→pf' (φ x)) (h3:∀ x F,Ent (post x F) (post' (φ x) F)):CSpec P W f args pre res' pf' post' := fun F w hs =>
  (hm F w hs).mono fun _ _ ⟨x,hx,hp,hs'⟩=>⟨φ x,by rw [hx,h1],h2 x hp,hs'.imp (h3 x F)⟩
theorem CSpec.ofStar {f:FuncId} {args:List Value} {G:List HP} {X:Type} {res:X→Value} {pf:X→Prop} (hm:CSpec P W f args [star G] res pf (fun _ F=>star G::F)):CSpec P W f args G res pf (fun _ F=>G ++ F) :=
  CSpec.conseq (G:=[]) hm (fun _ _ hp=>stars_star.2 hp) (fun _ _ _ hp=>stars_star.1 hp)
theorem CSpec.toStar {f:FuncId} {args:List Value} {G:List HP} {X:Type} {res:X→Value} {pf:X→Prop} (hm:CSpec P W f args G res pf (fun _ F=>G ++ F)):CSpec P W f args [star G] res pf (fun _ F=>star G::F) :=
  CSpec.conseq (G:=[]) hm (fun _ _ hp=>stars_star.1 hp) (fun _ _ _ hp=>stars_star.2 hp)
end
end Go.VG
namespace Go.Proofs.Ts
open Go.VG
def szL (sz:Nat→Nat) (n:Nat):List Int := (List.range n).map fun j=>(sz j:Int)
theorem zyd {sz:Nat→Nat} {n:Nat} : szL sz n ++ [(sz n:Int)]=szL sz (n + 1) := by simp [szL,List.range_succ]
theorem z01 {sz:Nat→Nat} {n:Nat} : (szL sz n).length=n := by simp [szL]
def suN (sz:Nat→Nat):Nat→Nat
  | 0=>0
  | n + 1=>suN sz n + sz n
def enL (sz:Nat→Nat) (n:Nat):List Int := (List.range n).map fun j=>((suN sz (j + 1):Nat):Int)
theorem zye {sz:Nat→Nat} {n:Nat} : enL sz n ++ [((suN sz n:Nat):Int) + (sz n:Int)]=enL sz (n + 1) := by simp [enL,List.range_succ,suN]
theorem z02 {sz:Nat→Nat} {n:Nat} : (enL sz n).length=n := by simp [enL]
theorem enL_2 {sz:Nat→Nat} : enL sz 2=[(sz 0:Int),((sz 0 + sz 1:Nat):Int)] := by simp [enL,List.range_succ,suN]
theorem zwh {sz:Nat→Nat} {m:Nat} (h:∀ i,i < m→sz i≤100000):∀ n,n≤m→suN sz n≤n * 100000
  | 0,_=>Nat.zero_le _
  | n + 1,hn=>by
    have h1 := zwh h n (by omega)
    have h2 := h n (by omega)
    show suN sz n + sz n≤_
    omega
theorem half {a:Nat} (h:a≤1000000000):IntKind.i64.wrap ((zbw (zdn (a:Int)) 1).toNat:Int)=((a / 2:Nat):Int) := by
  have e:(zbw (zdn (a:Int)) 1).toNat=a / 2 := by
    unfold zbw zdn
    simp
    omega
  rw [e,zcx (by omega) (by omega)]
theorem relM.zv {lg off:Nat→Nat} {sz L:Nat} {t:TS} {nw:Nat→UInt64} {cd:Nat→List UInt64} {ks:Nat→Nat} (h:relM lg off sz t nw cd) (hz:∀ i a,i < L→a < ks i→t.nw i a=0) (hl:∀ a,a < sz→lg a < L∧off a < ks (lg a)):∀ a,a < sz→nw a=0 := fun a ha =>
  (h a ha).1.trans (hz _ _ (hl a ha).1 (hl a ha).2)
end Go.Proofs.Ts
set_option linter.unusedSimpArgs false
set_option linter.unusedVariables false
set_option maxRecDepth 20000
set_option maxHeartbeats 4000000
namespace Go.Proofs
open Go.VG
@[ext] structure stripe_layout where
  chunk:Int
  n:Int
  deriving DecidableEq
@[ext] structure parity_rows where
  n:Int
  deriving DecidableEq
@[ext] structure parity_layout where
  rows:parity_rows
  chunk:Int
  deriving DecidableEq
theorem ztq (v0:Int) (v1:Int):∀ w,(Instr.build 133 (#[(0,.int .i64 v0),(1,.int .i64 v1)]:Array (Nat × Value))).run Tryz.prog w = .ok (.agg #[.int .i64 v0,.int .i64 v1]) w := fun w=>by kernel_rfl
theorem zwi (v0:Int):∀ w,(Instr.build 384 (#[(0,.int .i64 v0)]:Array (Nat × Value))).run Tryz.prog w = .ok (.agg #[.int .i64 v0]) w := fun w=>by kernel_rfl
theorem ztr (v0:Int) (v1:Int):∀ w,(Instr.build 386 (#[(0,.agg #[.int .i64 v0]),(1,.int .i64 v1)]:Array (Nat × Value))).run Tryz.prog w = .ok (.agg #[.int .i64 v0,.int .i64 v1]) w := fun w=>by kernel_rfl
def zd3 (x_0:stripe_layout) (at_1:Int):Option (Int × Int) :=
  grd (decide (¬ x_0.chunk=0)) <|
  grd (decide (¬ x_0.n=0)) <|
  grd (decide (¬ x_0.n=0)) <|
  grd (inI64 (((IntKind.i64.wrap (((IntKind.i64.wrap (at_1.tdiv x_0.chunk))).tdiv x_0.n)) * x_0.chunk))) <|
  lt (((IntKind.i64.wrap (((IntKind.i64.wrap (at_1.tdiv x_0.chunk))).tdiv x_0.n)) * x_0.chunk)) fun w2 =>
  grd (decide (¬ x_0.chunk=0)) <|
  grd (inI64 ((w2 + (at_1.tmod x_0.chunk)))) <|
  some (((((IntKind.i64.wrap (at_1.tdiv x_0.chunk))).tmod x_0.n),(w2 + (at_1.tmod x_0.chunk))))
theorem zg0 {W:World} {x_0:stripe_layout} {at_1:Int} {r:Int × Int} (h:zd3 x_0 at_1=some r) :
    CSpec Tryz.prog W 308 [.agg #[.int .i64 x_0.chunk,.int .i64 x_0.n],.int .i64 at_1] [] (fun x:Unit => .tuple #[.int .i64 r.1,.int .i64 r.2]) (fun _=>True) (fun x F=>F) := by
 refine CSpec.of_body Tryz.func308 rfl Tryz.ntmps308 rfl fun F => ?_
 show CJ _ _ _ _ _ _ (F)
 unfold zd3 at h
 refine sR<|oO<|O_box rfl rfl rfl fun b1=>oA rfl<|oA rfl<|nT<|sR<|oM rfl<|oP (zaa rfl ⟨_,_,_,Tryz.runUnderlying133,rfl,rfl,Tryz.sizeOf3,rfl⟩)<|oV (zac rfl foc0 rfl Tryz.isAgg3) ?_
 obtain ⟨hg1,h⟩ := zck h
 refine oP (zjr (a:=at_1) (b:=x_0.chunk) rfl rfl hg1)<|oA rfl<|nT<|zab<|za3 0 kR_ rfl<|aN 0 1 rfl rfl (zae rfl)<|aN 1 3 rfl rfl (zaa rfl ⟨_,_,_,Tryz.runUnderlying133,rfl,rfl,Tryz.sizeOf3,rfl⟩)<|aW 2 7 rfl rfl r_ (zac rfl foc0 rfl Tryz.isAgg3) ?_
 obtain ⟨hg2,h⟩ := zck h
 refine aN 3 15 rfl rfl (zg3 (a:=(IntKind.i64.wrap (at_1.tdiv x_0.chunk))) (b:=x_0.n) rfl rfl hg2)<|aN 4 31 rfl rfl (zae rfl)<|aN 5 63 rfl rfl (zaa rfl ⟨_,_,_,Tryz.runUnderlying133,rfl,rfl,Tryz.sizeOf3,rfl⟩)<|aW 6 127 rfl rfl r_ (zac rfl foc0 rfl Tryz.isAgg3) ?_
 obtain ⟨hg3,h⟩ := zck h
 refine aN 7 255 rfl rfl (zjr (a:=(IntKind.i64.wrap (at_1.tdiv x_0.chunk))) (b:=x_0.n) rfl rfl hg3)<|aN 8 511 rfl rfl (zaa rfl ⟨_,_,_,Tryz.runUnderlying133,rfl,rfl,Tryz.sizeOf3,rfl⟩)<|aW 9 1023 rfl rfl r_ (zac rfl foc0 rfl Tryz.isAgg3) ?_
 obtain ⟨hg4,h⟩ := zcm h
 refine aN 10 2047 rfl rfl (P_mul (a:=(IntKind.i64.wrap (((IntKind.i64.wrap (at_1.tdiv x_0.chunk))).tdiv x_0.n))) (b:=x_0.chunk) rfl rfl hg4) ?_
 obtain ⟨w2,hw2,h⟩ := lt_e h
 rw [← hw2]
 refine aN 11 4095 rfl rfl (zae rfl)<|aN 12 8191 rfl rfl (zaa rfl ⟨_,_,_,Tryz.runUnderlying133,rfl,rfl,Tryz.sizeOf3,rfl⟩)<|aW 13 16383 rfl rfl r_ (zac rfl foc0 rfl Tryz.isAgg3) ?_
 obtain ⟨hg5,h⟩ := zck h
 refine aN 14 32767 rfl rfl (zg3 (a:=at_1) (b:=x_0.chunk) rfl rfl hg5) ?_
 obtain ⟨hg6,h⟩ := zcm h
 refine aN 15 65535 rfl rfl (P_add (a:=w2) (b:=(at_1.tmod x_0.chunk)) rfl rfl hg6)<|aN 16 131071 rfl rfl (za9 rfl)<|aN 17 262143 rfl rfl (za9 rfl)<|aD<|zaf ?_
 cases h
 exact fE (res2 Tryz.results308 rfl rfl) () (e_ r_)
def zdl (x_0:stripe_layout) (at_1:Int):Option (Bool) :=
  some (((((((decide ((1:Int)≤x_0.chunk)) && (decide (x_0.chunk≤(65536:Int)))) && (decide ((1:Int)≤x_0.n))) && (decide (x_0.n≤(6:Int)))) && (decide ((0:Int)≤at_1))) && (decide (at_1≤(1073741824:Int)))))
theorem zj0 {W:World} {x_0:stripe_layout} {at_1:Int} {r:Bool} (h:zdl x_0 at_1=some r) :
    CSpec Tryz.prog W 81 [.agg #[.int .i64 x_0.chunk,.int .i64 x_0.n],.int .i64 at_1] [] (fun x:Unit => .bool r) (fun _=>True) (fun x F=>F) := by
 refine CSpec.of_body Tryz.func81 rfl Tryz.ntmps81 rfl fun F => ?_
 show CJ _ _ _ _ _ _ (F)
 unfold zdl at h
 refine sR<|oO<|O_box rfl rfl rfl fun b1=>oA rfl<|nT<|sR<|oP (zaa rfl ⟨_,_,_,Tryz.runUnderlying133,rfl,rfl,Tryz.sizeOf3,rfl⟩)<|oV (zac rfl foc0 rfl Tryz.isAgg3)<|oP (P_geq (a:=x_0.chunk) (b:=(1:Int)) rfl rfl)<|oM rfl<|zb2 rfl rfl rfl (fun hG2=>have hP3:((1:Int)≤x_0.chunk) := (zaq).1 hG2; VJ_P (zaa rfl ⟨_,_,_,Tryz.runUnderlying133,rfl,rfl,Tryz.sizeOf3,rfl⟩))<|zb2 rfl rfl rfl (fun hG4=>have hP5:((1:Int)≤x_0.chunk) := (zaq).1 hG4; zac (mbx hG4 rfl) foc0 rfl Tryz.isAgg3)<|zb2 rfl rfl rfl (fun hG6=>have hP7:((1:Int)≤x_0.chunk) := (zaq).1 hG6; VJ_P (P_leq (a:=x_0.chunk) (b:=(65536:Int)) (mbx hG6 rfl) rfl))<|oP (zci rfl (fun hh=>mbx hh rfl) rfl)<|oM rfl<|zb2 rfl rfl rfl (fun hG8=>have hP9:(((1:Int)≤x_0.chunk)∧(x_0.chunk≤(65536:Int))) := ((zbf zaq zaq)).1 hG8; VJ_P (zaa rfl ⟨_,_,_,Tryz.runUnderlying133,rfl,rfl,Tryz.sizeOf3,rfl⟩))<|zb2 rfl rfl rfl (fun hG10=>have hP11:(((1:Int)≤x_0.chunk)∧(x_0.chunk≤(65536:Int))) := ((zbf zaq zaq)).1 hG10; zac (mbx hG10 rfl) foc0 rfl Tryz.isAgg3)<|zb2 rfl rfl rfl (fun hG12=>have hP13:(((1:Int)≤x_0.chunk)∧(x_0.chunk≤(65536:Int))) := ((zbf zaq zaq)).1 hG12; VJ_P (P_geq (a:=x_0.n) (b:=(1:Int)) (mbx hG12 rfl) rfl))<|oP (zci rfl (fun hh=>mbx hh rfl) rfl)<|oM rfl ?_
 refine zb2 rfl rfl rfl (fun hG14=>have hP15:((((1:Int)≤x_0.chunk)∧(x_0.chunk≤(65536:Int)))∧((1:Int)≤x_0.n)) := ((zbf (zbf zaq zaq) zaq)).1 hG14; VJ_P (zaa rfl ⟨_,_,_,Tryz.runUnderlying133,rfl,rfl,Tryz.sizeOf3,rfl⟩))<|zb2 rfl rfl rfl (fun hG16=>have hP17:((((1:Int)≤x_0.chunk)∧(x_0.chunk≤(65536:Int)))∧((1:Int)≤x_0.n)) := ((zbf (zbf zaq zaq) zaq)).1 hG16; zac (mbx hG16 rfl) foc0 rfl Tryz.isAgg3)<|zb2 rfl rfl rfl (fun hG18=>have hP19:((((1:Int)≤x_0.chunk)∧(x_0.chunk≤(65536:Int)))∧((1:Int)≤x_0.n)) := ((zbf (zbf zaq zaq) zaq)).1 hG18; VJ_P (P_leq (a:=x_0.n) (b:=(6:Int)) (mbx hG18 rfl) rfl))<|oP (zci rfl (fun hh=>mbx hh rfl) rfl)<|oM rfl<|zb2 rfl rfl rfl (fun hG20=>have hP21:(((((1:Int)≤x_0.chunk)∧(x_0.chunk≤(65536:Int)))∧((1:Int)≤x_0.n))∧(x_0.n≤(6:Int))) := ((zbf (zbf (zbf zaq zaq) zaq) zaq)).1 hG20; VJ_P (zae rfl))<|zb2 rfl rfl rfl (fun hG22=>have hP23:(((((1:Int)≤x_0.chunk)∧(x_0.chunk≤(65536:Int)))∧((1:Int)≤x_0.n))∧(x_0.n≤(6:Int))) := ((zbf (zbf (zbf zaq zaq) zaq) zaq)).1 hG22; VJ_P (P_geq (a:=at_1) (b:=(0:Int)) (mbx hG22 rfl) rfl))<|oP (zci rfl (fun hh=>mbx hh rfl) rfl)<|oM rfl ?_
 refine zb2 rfl rfl rfl (fun hG24=>have hP25:((((((1:Int)≤x_0.chunk)∧(x_0.chunk≤(65536:Int)))∧((1:Int)≤x_0.n))∧(x_0.n≤(6:Int)))∧((0:Int)≤at_1)) := ((zbf (zbf (zbf (zbf zaq zaq) zaq) zaq) zaq)).1 hG24; VJ_P (zae rfl))<|zb2 rfl rfl rfl (fun hG26=>have hP27:((((((1:Int)≤x_0.chunk)∧(x_0.chunk≤(65536:Int)))∧((1:Int)≤x_0.n))∧(x_0.n≤(6:Int)))∧((0:Int)≤at_1)) := ((zbf (zbf (zbf (zbf zaq zaq) zaq) zaq) zaq)).1 hG26; VJ_P (P_leq (a:=at_1) (b:=(1073741824:Int)) (mbx hG26 rfl) rfl))<|oP (zci rfl (fun hh=>mbx hh rfl) rfl)<|oA rfl<|nT<|zaf ?_
 cases h
 exact fE (res1 Tryz.results81 rfl) () (e_ r_)
def zfe (n_0:Int):Option (Bool) :=
  some (((decide (n_0 < (0:Int))) || (decide ((1073741824:Int) < n_0))))
theorem zow {W:World} {n_0:Int} {r:Bool} (h:zfe n_0=some r) :
    CSpec Tryz.prog W 82 [.int .i64 n_0] [] (fun x:Unit => .bool r) (fun _=>True) (fun x F=>F) := by
 refine CSpec.of_body Tryz.func82 rfl Tryz.ntmps82 rfl fun F => ?_
 show CJ _ _ _ _ _ _ (F)
 unfold zfe at h
 refine sR<|oA rfl<|nT<|sR<|oM rfl<|oP (P_lss (a:=n_0) (b:=(0:Int)) rfl rfl)<|oM rfl<|zb7 rfl rfl rfl (fun hG1=>have hP2:¬ (n_0 < (0:Int)) := nP (zaq) hG1; VJ_P (zae rfl))<|zb7 rfl rfl rfl (fun hG3=>have hP4:¬ (n_0 < (0:Int)) := nP (zaq) hG3; VJ_P (P_gtr (a:=n_0) (b:=(1073741824:Int)) (mbx hG3 rfl) rfl))<|oP (zfq rfl rfl (fun hh=>mbx (not_f hh) rfl))<|oA rfl<|nT<|zaf ?_
 cases h
 exact fE (res1 Tryz.results82 rfl) () r_
def zcc (p0:List Int) (rec:Nat→Option ((Unit) ⊕ Int)) (x6:Nat):Option ((Unit) ⊕ Int) :=
  if (((x6:Nat):Int) < ((p0.length:Nat):Int)) then
    Option.bind (zfe (p0.getD x6 0)) fun r7 =>
    if r7=true then
      some (.inr (((x6:Nat):Int)))
    else
      rec (x6 + 1)
  else
    some (.inl ())
def zb0 (p0:List Int):Nat→Nat→Option ((Unit) ⊕ Int)
  | 0,_=>none
  | n + 1,x6=>zcc p0 (zb0 p0 n) x6
def zcj (p0:List Int):Option (Int) :=
  seqO (zb0 p0 FUEL 0) fun a5 =>
  some (-1:Int)
theorem zfn {W:World} {Ap0:HP} {vp0:Value} {p0:List Int} {r:Int} (rp0:Reads Ap0 tyI vp0 p0) (h:zcj p0=some r) :
    CSpec Tryz.prog W 64 [vp0,.func (.func 82) #[] #[]] [Ap0] (fun x:Unit => .int .i64 r) (fun _=>True) (fun x F=>Ap0::F) := by
 refine CSpec.of_body Tryz.func64 rfl Tryz.ntmps64 rfl fun F => ?_
 show CJ _ _ _ _ _ _ (_::F)
 unfold zcj at h
 refine zdy (zh4 rp0 del0) fun hlen1=>sR<|oA rfl<|nT<|zab<|sR<|oM rfl<|oV (V_len rfl foc0 rp0 Tryz.runUnderlying22)<|oM rfl<|nT ?_
 obtain ⟨y4,hl2,hK3⟩ := seq_e h
 refine zdg (X:=Unit) [4,5,8,9,10,11,12,13,14,15,16,17,18] (fun _=>([]:Slots)) (fun _ R=>R) (fun _=>y4 = .inl ()) Dels.nil ?_ ?_
 ·
  refine zao<|za8 (X:=Nat × Nat) [4,5,8,9,10,11,12,13,14,15,16,17,18] (fun ⟨n,x6⟩=>([(8,.int .i64 (((x6:Nat):Int)))]:Slots)) (fun ⟨n,x6⟩ R=>R) (fun ⟨n,x6⟩=>zb0 p0 n x6=some y4) (fun ⟨n,x6⟩=>n) ⟨FUEL,0⟩ ?_ ?_ r_ ?_
  · exact hl2
  · exact ⟨rfl,True.intro⟩
  ·
   rintro ⟨n,x6⟩ h
   cases n with
   | zero=>exact zdr h
   | succ n => ?_
   replace h:zcc p0 (zb0 p0 n) x6=some y4 := h
   unfold zcc at h
   show CJ _ _ _ _ _ (([(8,.int .i64 (((x6:Nat):Int)))]:Slots) ++ forget _ _) (_)
   refine sR<|oP (P_lss (a:=((x6:Nat):Int)) (b:=((p0.length:Nat):Int)) rfl rfl)<|nT<|zab<|zbt rfl zaq (fun hg1 => ?_) (fun hg1 => ?_)
   ·
    replace h := ite_t hg1 h
    refine kT<|zab<|zao<|sR<|oM rfl<|oA rfl<|nT<|sR<|oM rfl<|oM rfl<|oM rfl<|oV (zam (i:=x6) rfl rfl rfl (by omega) foc0 rp0 Tryz.runUnderlying22 Tryz.sizeOf3)<|oV (za6 rfl rfl (by omega) foc0 rp0 rfl rfl Tryz.isAgg3) ?_
    obtain ⟨r7,hr8,h⟩ := zb9 h
    refine oO<|zdz rfl rfl (zow hr8) Tryz.call82 Dels.nil rfl fun _ _=>nT<|zbt rfl Iff.rfl (fun hg2 => ?_) (fun hg2 => ?_)
    ·
     replace h := ite_t hg2 h
     refine sR<|oM rfl<|oA rfl<|nT<|zaf<|zax<|zak<|zbm<|zax<|zak ?_
     have hE := Option.some.inj h
     replace hE := zf2 hK3 hE.symm
     subst hE
     exact fE (res1 Tryz.results64 rfl) () r_
    ·
     replace h := ite_f hg2 h
     exact zbh<|zah<|zar<|zag<|oP (PJ_eq (P_add (a:=((x6:Nat):Int)) (b:=(1:Int)) rfl rfl (by omega)) rfl)<|oM rfl<|za0<|nR ⟨n,(x6 + 1)⟩ h ⟨rfl,True.intro⟩ r_
   ·
    replace h := ite_f hg1 h
    exact zbc<|zay<|zau<|zat<|cR () (Option.some.inj h).symm True.intro r_
 ·
  rintro _ hy9
  replace h := zgs hK3 hy9
  show CJ _ _ _ _ _ (([]:Slots) ++ forget _ _) (_)
  refine sR<|oA rfl<|nT<|zaf ?_
  cases h
  exact fE (res1 Tryz.results64 rfl) () r_
def zcd (p0:List Int):Option (Bool) :=
  Option.bind (zcj p0) fun r2 =>
  some ((decide ((0:Int)≤r2)))
theorem ze6 {W:World} {Ap0:HP} {vp0:Value} {p0:List Int} {r:Bool} (rp0:Reads Ap0 tyI vp0 p0) (h:zcd p0=some r) :
    CSpec Tryz.prog W 34 [vp0,.func (.func 82) #[] #[]] [Ap0] (fun x:Unit => .bool r) (fun _=>True) (fun x F=>Ap0::F) := by
 refine CSpec.of_body Tryz.func34 rfl Tryz.ntmps34 rfl fun F => ?_
 show CJ _ _ _ _ _ _ (_::F)
 unfold zcd at h
 refine zdy (zh4 rp0 del0) fun hlen1=>sR<|oA rfl<|nT<|sR<|oM rfl<|oM rfl ?_
 obtain ⟨r2,hr3,h⟩ := zb9 h
 refine oO<|zai (zfn rp0 hr3) rfl Tryz.call64 (dC_ del0) rfl fun _ _=>oP (P_geq (a:=r2) (b:=(0:Int)) rfl rfl)<|oA rfl<|nT<|zaf ?_
 cases h
 exact fE (res1 Tryz.results34 rfl) () r_
def zd4 (p0:List Int) (rec:Int→Nat→Option (Int)) (x12:Int) (x13:Nat):Option (Int) :=
  if (((x13:Nat):Int) < ((p0.length:Nat):Int)) then
    rec ((min x12 (p0.getD x13 0))) (x13 + 1)
  else
    some x12
def zdi (p0:List Int):Nat→Int→Nat→Option (Int)
  | 0,_,_=>none
  | n + 1,x12,x13=>zd4 p0 (zdi p0 n) x12 x13
def zf3 (p0:List Int):Option (Int) :=
  Option.bind ((
    if (((p0.length:Nat):Int) < (1:Int)) then
      none
    else
      some ():Option (Unit))) fun a5 =>
  grd (decide (0 < p0.length)) <|
  Option.bind (zdi p0 FUEL (p0.getD 0 0) 1) fun a11 =>
  some a11
theorem zn6 {W:World} {Ap0:HP} {vp0:Value} {p0:List Int} {r:Int} (rp0:Reads Ap0 tyI vp0 p0) (h:zf3 p0=some r) :
    CSpec Tryz.prog W 57 [vp0] [Ap0] (fun x:Unit => .int .i64 r) (fun _=>True) (fun x F=>Ap0::F) := by
 refine CSpec.of_body Tryz.func57 rfl Tryz.ntmps57 rfl fun F => ?_
 show CJ _ _ _ _ _ _ (_::F)
 unfold zf3 at h
 refine zdy (zh4 rp0 del0) fun hlen1=>sR<|oA rfl<|nT<|zab<|sR<|oM rfl<|oV (V_len rfl foc0 rp0 Tryz.runUnderlying22)<|oP (P_lss (a:=((p0.length:Nat):Int)) (b:=(1:Int)) rfl rfl)<|nT ?_
 obtain ⟨y4,hl2,hK3⟩ := zh5 h
 refine zdg (X:=Unit) [8] (fun _=>([]:Slots)) (fun _ R=>R) (fun _=>True) Dels.nil ?_ ?_
 ·
  have h := hl2
  refine zbt rfl zaq (fun hg1 => ?_) (fun hg1 => ?_)
  ·
   replace h := ite_t hg1 h
   exact zag<|oP (zdu rfl Tryz.runUnderlying9 (by intro ms h; cases h))<|zdr h
  ·
   replace h := ite_f hg1 h
   exact zbh<|cR () trivial True.intro r_
 ·
  rintro _ hy6
  have h := hK3
  show CJ _ _ _ _ _ (([]:Slots) ++ forget _ _) (_)
  refine sR<|oM rfl ?_
  obtain ⟨hg2,h⟩ := zck h
  refine oV (zam (i:=0) rfl rfl rfl hg2 foc0 rp0 Tryz.runUnderlying22 Tryz.sizeOf3)<|oV (za6 rfl rfl hg2 foc0 rp0 rfl rfl Tryz.isAgg3)<|oA rfl<|nT<|zab<|sR<|oA rfl<|nT ?_
  obtain ⟨y9,hl7,hK8⟩ := zh5 h
  refine zdg (X:=Int) [3,4,12,13,14,15,16,17,18,19,20,21,22,23] (fun a11=>([(3,.int .i64 a11)]:Slots)) (fun a11 R=>R) (fun a11=>y9=a11) Dels.nil ?_ ?_
  ·
   refine zao<|za8 (X:=Nat × Int × Nat) [3,4,12,13,14,15,16,17,18,19,20,21,22,23] (fun ⟨n,x12,x13⟩=>([(3,.int .i64 x12),(4,.int .i64 (((x13:Nat):Int)))]:Slots)) (fun ⟨n,x12,x13⟩ R=>R) (fun ⟨n,x12,x13⟩=>zdi p0 n x12 x13=some y9) (fun ⟨n,x12,x13⟩=>n) ⟨FUEL,(p0.getD 0 0),1⟩ ?_ ?_ r_ ?_
   · exact hl7
   · exact ⟨rfl,rfl,True.intro⟩
   ·
    rintro ⟨n,x12,x13⟩ h
    cases n with
    | zero=>exact zdr h
    | succ n => ?_
    replace h:zd4 p0 (zdi p0 n) x12 x13=some y9 := h
    unfold zd4 at h
    show CJ _ _ _ _ _ (([(3,.int .i64 x12),(4,.int .i64 (((x13:Nat):Int)))]:Slots) ++ forget _ _) (_)
    refine zab<|sR<|oM rfl<|oM rfl<|oV (V_len rfl foc0 rp0 Tryz.runUnderlying22)<|oP (P_lss (a:=((x13:Nat):Int)) (b:=((p0.length:Nat):Int)) rfl rfl)<|nT<|zbt rfl zaq (fun hg3 => ?_) (fun hg3 => ?_)
    ·
     replace h := ite_t hg3 h
     exact kT<|zab<|zao<|zag<|oM rfl<|oM rfl<|oM rfl<|oV (zam (i:=x13) rfl rfl rfl (by omega) foc0 rp0 Tryz.runUnderlying22 Tryz.sizeOf3)<|oV (za6 rfl rfl (by omega) foc0 rp0 rfl rfl Tryz.isAgg3)<|oP (P_min (a:=x12) (b:=(p0.getD x13 0)) rfl rfl)<|oA rfl<|za0<|zah<|zar<|zag<|oM rfl<|oP (PJ_eq (P_add (a:=((x13:Nat):Int)) (b:=(1:Int)) rfl rfl (by omega)) rfl)<|oA rfl<|za0<|nR ⟨n,(min x12 (p0.getD x13 0)),(x13 + 1)⟩ h ⟨rfl,rfl,True.intro⟩ r_
    ·
     replace h := ite_f hg3 h
     exact zbc<|zay<|zau<|zat<|cR x12 (Option.some.inj h).symm ⟨rfl,True.intro⟩ r_
  ·
   rintro a11 hy14
   replace h := zgj hK8 hy14
   show CJ _ _ _ _ _ (([(3,.int .i64 a11)]:Slots) ++ forget _ _) (_)
   refine sR<|oM rfl<|oA rfl<|nT<|zaf ?_
   cases h
   exact fE (res1 Tryz.results57 rfl) () r_
def zh0 (chunk:Int) (sizes:List Int):Option (Int × Int) :=
  Option.bind (zdl ((⟨chunk,((sizes.length:Nat):Int)⟩:stripe_layout)) (0:Int)) fun r3 =>
  if (¬ r3=true) then
    some (((0:Int),(1:Int)))
  else
    Option.bind (zcd sizes) fun r5 =>
    if r5=true then
      some (((0:Int),(1:Int)))
    else
      Option.bind (zf3 sizes) fun r7 =>
      grd (decide (¬ chunk=0)) <|
      grd (inI64 (((IntKind.i64.wrap (r7.tdiv chunk)) * chunk))) <|
      grd (inI64 ((((sizes.length:Nat):Int) * ((IntKind.i64.wrap (r7.tdiv chunk)) * chunk)))) <|
      some (((((sizes.length:Nat):Int) * ((IntKind.i64.wrap (r7.tdiv chunk)) * chunk)),(0:Int)))
theorem zrd {W:World} {Asizes:HP} {vsizes:Value} {chunk:Int} {sizes:List Int} {r:Int × Int} (rsizes:Reads Asizes tyI vsizes sizes) (h:zh0 chunk sizes=some r) :
    CSpec Tryz.prog W 52 [.int .i64 chunk,vsizes] [Asizes] (fun x:Unit => .tuple #[.int .i64 r.1,.int .i64 r.2]) (fun _=>True) (fun x F=>Asizes::F) := by
 refine CSpec.of_body Tryz.func52 rfl Tryz.ntmps52 rfl fun F => ?_
 show CJ _ _ _ _ _ _ (_::F)
 unfold zh0 at h
 refine zdy (zh4 rsizes del0) fun hlen1=>sR<|oA rfl<|oA rfl<|nT<|sR<|oM rfl<|oM rfl<|oV (V_len rfl foc0 rsizes Tryz.runUnderlying22)<|oP (zbk rfl (ztq _ _))<|oO<|zbi Tryz.zeroValue133 rfl rfl fun b2=>oO<|zbo rfl rfl foc0 Tryz.sizeOf133 rfl rfl rfl<|nT<|zab<|sR<|oV (zbq rfl foc0 Tryz.isAgg133 Tryz.sizeOf133 rfl rfl) ?_
 obtain ⟨r3,hr4,h⟩ := zb9 h
 refine oO<|zai (zj0 hr4) rfl Tryz.call81 Dels.nil rfl fun _ _=>oP (P_not rfl)<|oM rfl<|zeb 14 rfl (zh1 Iff.rfl) (fun hg1B hg1 => ?_) (fun hg1B hg1 => ?_)
 ·
  replace h := ite_t hg1 h
  refine g_ rfl rfl rfl hg1B rfl<|g_ rfl rfl rfl hg1B rfl<|oP (zbe rfl hg1B rfl)<|nT<|za7 rfl rfl<|sR<|oA rfl<|oA rfl<|nT<|zaf<|zak ?_
  cases h
  exact fE (res2 Tryz.results52 rfl rfl) () (t1_ (e_ r_))
 ·
  replace h := ite_f hg1 h
  refine p_ rfl rfl rfl hg1B (zae rfl) ?_
  obtain ⟨r5,hr6,h⟩ := zb9 h
  refine RJ_gy (zaz rfl rfl rfl hg1B)<|zai (ze6 rsizes hr6) rfl Tryz.call34 (dC_ del1) rfl fun _ _=>oP (za2 rfl hg1B rfl)<|nT<|zbt rfl Iff.rfl (fun hg2 => ?_) (fun hg2 => ?_)
  ·
   replace h := ite_t hg2 h
   refine sR<|oA rfl<|oA rfl<|nT<|zaf<|zak ?_
   cases h
   exact fE (res2 Tryz.results52 rfl rfl) () (t0_ (e_ r_))
  ·
   replace h := ite_f hg2 h
   refine kT<|zab<|za3 0 kR_ rfl<|aN 0 1 rfl rfl (zaa rfl ⟨_,_,_,Tryz.runUnderlying133,rfl,rfl,Tryz.sizeOf3,rfl⟩)<|aW 1 3 rfl rfl r_ (zac rfl foc1 rfl Tryz.isAgg3)<|aN 2 7 rfl rfl (zae rfl)<|aN 4 23 rfl rfl (zae rfl)<|aN 6 87 rfl rfl (zae rfl) ?_
   obtain ⟨r7,hr8,h⟩ := zb9 h
   refine AJ_op 3 95 rfl kR_ rfl (zal rfl)<|zai (zn6 rsizes hr8) rfl Tryz.call57 (dC_ del0) rfl fun _ _=>⟨fun _=>r_,?_⟩
   obtain ⟨hg3,h⟩ := zck h
   refine aN 5 127 rfl rfl (zjr (a:=r7) (b:=chunk) rfl rfl hg3) ?_
   obtain ⟨hg4,h⟩ := zcm h
   refine aN 7 255 rfl rfl (P_mul (a:=(IntKind.i64.wrap (r7.tdiv chunk))) (b:=chunk) rfl rfl hg4) ?_
   obtain ⟨hg5,h⟩ := zcm h
   refine aN 8 511 rfl rfl (P_mul (a:=((sizes.length:Nat):Int)) (b:=((IntKind.i64.wrap (r7.tdiv chunk)) * chunk)) rfl rfl hg5)<|aN 9 1023 rfl rfl (za9 rfl)<|aN 10 2047 rfl rfl (za9 rfl)<|aD<|zaf ?_
   cases h
   exact fE (res2 Tryz.results52 rfl rfl) () (t0_ (e_ r_))
def zgl (chunk:Int) (n_1:Int):Option (parity_layout × Bool) :=
  some (((⟨(⟨n_1⟩:parity_rows),chunk⟩:parity_layout),((((decide ((1:Int)≤chunk)) && (decide (chunk≤(65536:Int)))) && (decide ((3:Int)≤n_1))) && (decide (n_1≤(6:Int))))))
theorem zl9 {W:World} {chunk:Int} {n_1:Int} {r:parity_layout × Bool} (h:zgl chunk n_1=some r) :
    CSpec Tryz.prog W 284 [.int .i64 chunk,.int .i64 n_1] [] (fun x:Unit => .tuple #[.agg #[.int .i64 r.1.rows.n,.int .i64 r.1.chunk],.bool r.2]) (fun _=>True) (fun x F=>F) := by
 refine CSpec.of_body Tryz.func284 rfl Tryz.ntmps284 rfl fun F => ?_
 show CJ _ _ _ _ _ _ (F)
 unfold zgl at h
 refine sR<|oO<|zbi Tryz.zeroValue386 rfl rfl fun b1=>oA rfl<|nT<|sR<|oM rfl<|oP (P_geq (a:=chunk) (b:=(1:Int)) rfl rfl)<|oM rfl<|zb2 rfl rfl rfl (fun hG2=>have hP3:((1:Int)≤chunk) := (zaq).1 hG2; VJ_P (zae rfl))<|zb2 rfl rfl rfl (fun hG4=>have hP5:((1:Int)≤chunk) := (zaq).1 hG4; VJ_P (P_leq (a:=chunk) (b:=(65536:Int)) (mbx hG4 rfl) rfl))<|oP (zci rfl (fun hh=>mbx hh rfl) rfl)<|oM rfl<|zb2 rfl rfl rfl (fun hG6=>have hP7:(((1:Int)≤chunk)∧(chunk≤(65536:Int))) := ((zbf zaq zaq)).1 hG6; VJ_P (zae rfl))<|zb2 rfl rfl rfl (fun hG8=>have hP9:(((1:Int)≤chunk)∧(chunk≤(65536:Int))) := ((zbf zaq zaq)).1 hG8; VJ_P (P_geq (a:=n_1) (b:=(3:Int)) (mbx hG8 rfl) rfl))<|oP (zci rfl (fun hh=>mbx hh rfl) rfl)<|oM rfl<|zb2 rfl rfl rfl (fun hG10=>have hP11:((((1:Int)≤chunk)∧(chunk≤(65536:Int)))∧((3:Int)≤n_1)) := ((zbf (zbf zaq zaq) zaq)).1 hG10; VJ_P (zae rfl))<|zb2 rfl rfl rfl (fun hG12=>have hP13:((((1:Int)≤chunk)∧(chunk≤(65536:Int)))∧((3:Int)≤n_1)) := ((zbf (zbf zaq zaq) zaq)).1 hG12; VJ_P (P_leq (a:=n_1) (b:=(6:Int)) (mbx hG12 rfl) rfl))<|oP (zci rfl (fun hh=>mbx hh rfl) rfl)<|oA rfl<|nT<|sR<|oM rfl<|oP (zbk rfl (zwi _))<|oM rfl<|oP (zbk rfl (ztr _ _))<|oM rfl<|oO<|zbo rfl rfl foc0 Tryz.sizeOf386 rfl rfl rfl ?_
 refine oA rfl<|nT<|zaf ?_
 cases h
 exact fE (resA2 Tryz.results284 (zdp rfl foc0 Tryz.isAgg386 Tryz.sizeOf386 rfl rfl) (zju rfl)) () (e_ r_)
def zh9 (at_0:Int):Option (Bool) :=
  some (((decide ((0:Int)≤at_0)) && (decide (at_0≤(1073741824:Int)))))
theorem zox {W:World} {at_0:Int} {r:Bool} (h:zh9 at_0=some r) :
    CSpec Tryz.prog W 285 [.int .i64 at_0] [] (fun x:Unit => .bool r) (fun _=>True) (fun x F=>F) := by
 refine CSpec.of_body Tryz.func285 rfl Tryz.ntmps285 rfl fun F => ?_
 show CJ _ _ _ _ _ _ (F)
 unfold zh9 at h
 refine sR<|oA rfl<|nT<|sR<|oM rfl<|oP (P_geq (a:=at_0) (b:=(0:Int)) rfl rfl)<|oM rfl<|zb2 rfl rfl rfl (fun hG1=>have hP2:((0:Int)≤at_0) := (zaq).1 hG1; VJ_P (zae rfl))<|zb2 rfl rfl rfl (fun hG3=>have hP4:((0:Int)≤at_0) := (zaq).1 hG3; VJ_P (P_leq (a:=at_0) (b:=(1073741824:Int)) (mbx hG3 rfl) rfl))<|oP (zci rfl (fun hh=>mbx hh rfl) rfl)<|oA rfl<|nT<|zaf ?_
 cases h
 exact fE (res1 Tryz.results285 rfl) () r_
def zft (x_0:parity_rows) (row:Int):Option (Int) :=
  grd (inI64 ((x_0.n - (1:Int)))) <|
  grd (decide (¬ x_0.n=0)) <|
  grd (inI64 (((x_0.n - (1:Int)) - (row.tmod x_0.n)))) <|
  some (((x_0.n - (1:Int)) - (row.tmod x_0.n)))
theorem zky {W:World} {x_0:parity_rows} {row:Int} {r:Int} (h:zft x_0 row=some r) :
    CSpec Tryz.prog W 286 [.agg #[.int .i64 x_0.n],.int .i64 row] [] (fun x:Unit => .int .i64 r) (fun _=>True) (fun x F=>F) := by
 refine CSpec.of_body Tryz.func286 rfl Tryz.ntmps286 rfl fun F => ?_
 show CJ _ _ _ _ _ _ (F)
 unfold zft at h
 refine sR<|oO<|O_box rfl rfl rfl fun b1=>oA rfl<|nT<|zab<|za3 0 kR_ rfl<|aN 0 1 rfl rfl (zaa rfl ⟨_,_,_,Tryz.runUnderlying384,rfl,rfl,Tryz.sizeOf3,rfl⟩)<|aW 1 3 rfl rfl r_ (zac rfl foc0 rfl Tryz.isAgg3) ?_
 obtain ⟨hg1,h⟩ := zcm h
 refine aN 2 7 rfl rfl (P_sub (a:=x_0.n) (b:=(1:Int)) rfl rfl hg1)<|aN 3 15 rfl rfl (zae rfl)<|aN 4 31 rfl rfl (zaa rfl ⟨_,_,_,Tryz.runUnderlying384,rfl,rfl,Tryz.sizeOf3,rfl⟩)<|aW 5 63 rfl rfl r_ (zac rfl foc0 rfl Tryz.isAgg3) ?_
 obtain ⟨hg2,h⟩ := zck h
 refine aN 6 127 rfl rfl (zg3 (a:=row) (b:=x_0.n) rfl rfl hg2) ?_
 obtain ⟨hg3,h⟩ := zcm h
 refine aN 7 255 rfl rfl (P_sub (a:=(x_0.n - (1:Int))) (b:=(row.tmod x_0.n)) rfl rfl hg3)<|aN 8 511 rfl rfl (za9 rfl)<|aD<|zaf ?_
 cases h
 exact fE (res1 Tryz.results286 rfl) () (e_ r_)
def zfu (chunk:Int) (n_1:Int) (at_2:Int):Option (Int × Int × Int × Int) :=
  Option.bind (zgl chunk n_1) fun r1 =>
  if (¬ r1.2=true) then
    some (((0:Int),(0:Int),(0:Int),(1:Int)))
  else
    Option.bind (zh9 at_2) fun r4 =>
    if (¬ r4=true) then
      some (((0:Int),(0:Int),(0:Int),(1:Int)))
    else
      grd (decide (¬ chunk=0)) <|
      grd (inI64 ((n_1 - (1:Int)))) <|
      grd (decide (¬ (n_1 - (1:Int))=0)) <|
      lt ((IntKind.i64.wrap (((IntKind.i64.wrap (at_2.tdiv chunk))).tdiv ((n_1 - (1:Int)))))) fun w6 =>
      Option.bind (zft (⟨r1.1.rows.n⟩:parity_rows) w6) fun r7 =>
      grd (inI64 ((r7 + (1:Int)))) <|
      grd (inI64 ((n_1 - (1:Int)))) <|
      grd (decide (¬ (n_1 - (1:Int))=0)) <|
      grd (inI64 (((r7 + (1:Int)) + (((IntKind.i64.wrap (at_2.tdiv chunk))).tmod ((n_1 - (1:Int))))))) <|
      lt (((r7 + (1:Int)) + (((IntKind.i64.wrap (at_2.tdiv chunk))).tmod ((n_1 - (1:Int)))))) fun w9 =>
      grd (decide (¬ n_1=0)) <|
      grd (inI64 (w6 * chunk)) <|
      grd (decide (¬ chunk=0)) <|
      grd (inI64 (((w6 * chunk) + (at_2.tmod chunk)))) <|
      some (((w9.tmod n_1),((w6 * chunk) + (at_2.tmod chunk)),r7,(0:Int)))
theorem zp3 {W:World} {chunk:Int} {n_1:Int} {at_2:Int} {r:Int × Int × Int × Int} (h:zfu chunk n_1 at_2=some r) :
    CSpec Tryz.prog W 280 [.int .i64 chunk,.int .i64 n_1,.int .i64 at_2] [] (fun x:Unit => .tuple #[.int .i64 r.1,.int .i64 r.2.1,.int .i64 r.2.2.1,.int .i64 r.2.2.2]) (fun _=>True) (fun x F=>F) := by
 refine CSpec.of_body Tryz.func280 rfl Tryz.ntmps280 rfl fun F => ?_
 show CJ _ _ _ _ _ _ (F)
 unfold zfu at h
 refine sR<|oA rfl<|oA rfl<|oA rfl<|oA rfl<|nT<|sR<|oM rfl<|oM rfl ?_
 obtain ⟨r1,hr2,h⟩ := zb9 h
 refine oO<|zai (zl9 hr2) rfl Tryz.call284 Dels.nil rfl fun _ _=>oM rfl<|oP (zaj rfl rfl)<|oP (zaj rfl rfl)<|oO<|zbi Tryz.zeroValue386 rfl rfl fun b3=>oO<|zbo rfl rfl foc0 Tryz.sizeOf386 rfl rfl rfl<|oA rfl<|nT<|zab<|sR<|oM rfl<|oP (P_not rfl)<|oM rfl<|zeb 22 rfl (zh1 Iff.rfl) (fun hg1B hg1 => ?_) (fun hg1B hg1 => ?_)
 ·
  replace h := ite_t hg1 h
  refine g_ rfl rfl rfl hg1B rfl<|g_ rfl rfl rfl hg1B rfl<|g_ rfl rfl rfl hg1B rfl<|oP (zbe rfl hg1B rfl)<|nT<|za7 rfl rfl<|sR<|oA rfl<|oA rfl<|oA rfl<|oA rfl<|nT<|zaf<|zak ?_
  cases h
  exact fE (res4 Tryz.results280 rfl rfl rfl rfl) () (e_ r_)
 ·
  replace h := ite_f hg1 h
  refine p_ rfl rfl rfl hg1B (zae rfl) ?_
  obtain ⟨r4,hr5,h⟩ := zb9 h
  refine RJ_gy (zaz rfl rfl rfl hg1B)<|zai (zox hr5) rfl Tryz.call285 Dels.nil rfl fun _ _=>p_ rfl rfl rfl hg1B (P_not rfl)<|oP (za2 rfl hg1B rfl)<|nT<|zbt rfl (zh1 Iff.rfl) (fun hg2 => ?_) (fun hg2 => ?_)
  ·
   replace h := ite_t hg2 h
   refine sR<|oA rfl<|oA rfl<|oA rfl<|oA rfl<|nT<|zaf<|zak ?_
   cases h
   exact fE (res4 Tryz.results280 rfl rfl rfl rfl) () (e_ r_)
  ·
   replace h := ite_f hg2 h
   refine kT<|sR<|oM rfl<|oM rfl ?_
   obtain ⟨hg3,h⟩ := zck h
   refine oP (zjr (a:=at_2) (b:=chunk) rfl rfl hg3)<|oA rfl<|nT<|sR<|oM rfl<|oM rfl ?_
   obtain ⟨hg4,h⟩ := zcm h
   refine oP (P_sub (a:=n_1) (b:=(1:Int)) rfl rfl hg4) ?_
   obtain ⟨hg5,h⟩ := zck h
   refine oP (zjr (a:=(IntKind.i64.wrap (at_2.tdiv chunk))) (b:=(n_1 - (1:Int))) rfl rfl hg5) ?_
   obtain ⟨w6,hw6,h⟩ := lt_e h
   rw [← hw6]
   refine oA rfl<|nT<|sR<|oP (zaa rfl ⟨_,_,_,Tryz.runUnderlying386,rfl,rfl,Tryz.sizeOf384,rfl⟩)<|oV (zbq rfl foc0 Tryz.isAgg384 Tryz.sizeOf384 rfl rfl)<|oM rfl ?_
   obtain ⟨r7,hr8,h⟩ := zb9 h
   refine oO<|zai (zky hr8) rfl Tryz.call286 Dels.nil rfl fun _ _=>oA rfl<|nT<|zab<|za3 0 kR_ rfl<|aN 0 1 rfl rfl (zae rfl) ?_
   obtain ⟨hg6,h⟩ := zcm h
   refine aN 1 3 rfl rfl (P_add (a:=r7) (b:=(1:Int)) rfl rfl hg6)<|aN 2 7 rfl rfl (zae rfl)<|aN 3 15 rfl rfl (zae rfl) ?_
   obtain ⟨hg7,h⟩ := zcm h
   refine aN 4 31 rfl rfl (P_sub (a:=n_1) (b:=(1:Int)) rfl rfl hg7) ?_
   obtain ⟨hg8,h⟩ := zck h
   refine aN 5 63 rfl rfl (zg3 (a:=(IntKind.i64.wrap (at_2.tdiv chunk))) (b:=(n_1 - (1:Int))) rfl rfl hg8) ?_
   obtain ⟨hg9,h⟩ := zcm h
   refine aN 6 127 rfl rfl (P_add (a:=(r7 + (1:Int))) (b:=(((IntKind.i64.wrap (at_2.tdiv chunk))).tmod ((n_1 - (1:Int))))) rfl rfl hg9) ?_
   obtain ⟨w9,hw9,h⟩ := lt_e h
   rw [← hw9]
   refine aN 7 255 rfl rfl (zae rfl) ?_
   obtain ⟨hg10,h⟩ := zck h
   refine aN 8 511 rfl rfl (zg3 (a:=w9) (b:=n_1) rfl rfl hg10)<|aN 9 1023 rfl rfl (zae rfl)<|aN 10 2047 rfl rfl (zae rfl) ?_
   obtain ⟨hg11,h⟩ := zcm h
   refine aN 11 4095 rfl rfl (P_mul (a:=w6) (b:=chunk) rfl rfl hg11)<|aN 12 8191 rfl rfl (zae rfl)<|aN 13 16383 rfl rfl (zae rfl) ?_
   obtain ⟨hg12,h⟩ := zck h
   refine aN 14 32767 rfl rfl (zg3 (a:=at_2) (b:=chunk) rfl rfl hg12) ?_
   obtain ⟨hg13,h⟩ := zcm h
   refine aN 15 65535 rfl rfl (P_add (a:=(w6 * chunk)) (b:=(at_2.tmod chunk)) rfl rfl hg13)<|aN 16 131071 rfl rfl (zae rfl)<|aN 17 262143 rfl rfl (za9 rfl)<|aN 18 524287 rfl rfl (za9 rfl)<|aN 19 1048575 rfl rfl (za9 rfl)<|aN 20 2097151 rfl rfl (za9 rfl)<|aD<|zaf ?_
   cases h
   exact fE (res4 Tryz.results280 rfl rfl rfl rfl) () (e_ r_)
def zlc (old:UInt64) (now:UInt64) (parity:UInt64):Option (UInt64) :=
  some (((old ^^^ now) ^^^ parity))
theorem zoy {W:World} {old:UInt64} {now:UInt64} {parity:UInt64} {r:UInt64} (h:zlc old now parity=some r) :
    CSpec Tryz.prog W 278 [.int .u64 (old.toNat:Int),.int .u64 (now.toNat:Int),.int .u64 (parity.toNat:Int)] [] (fun x:Unit => .int .u64 (r.toNat:Int)) (fun _=>True) (fun x F=>F) := by
 refine CSpec.of_body Tryz.func278 rfl Tryz.ntmps278 rfl fun F => ?_
 show CJ _ _ _ _ _ _ (F)
 unfold zlc at h
 refine sR<|oA rfl<|nT<|sR<|oM rfl<|oM rfl<|oP (zqp (a:=old) (b:=now) rfl rfl)<|oM rfl<|oP (zqp (a:=(old ^^^ now)) (b:=parity) rfl rfl)<|oA rfl<|nT<|zaf ?_
 cases h
 exact fE (res1 Tryz.results278 rfl) () r_
end Go.Proofs
namespace Go.Proofs.Ts
open Go.VG
theorem zyf {c a b:Nat} (hc:1≤c∧c≤3) (ha:a≤100000) (hb:b≤100000):zh0 (c:Int) [(a:Int),(b:Int)]=some (((2 * (min a b / c * c):Nat):Int),0) := by
  have hF := zkn
  unfold zh0 zcd zcj zf3
  obtain ⟨N,hN⟩:∃ N,FUEL=N + 3 := ⟨FUEL - 3,by omega⟩
  rw [show zdl (⟨(c:Int),(([(a:Int),(b:Int)].length:Nat):Int)⟩:stripe_layout) 0=some true from by
      unfold zdl
      rw [decide_eq_true (show (1:Int)≤(c:Int) by omega),decide_eq_true (show (c:Int)≤65536 by omega)]; rfl]
  have v1:∀ x:Nat,x≤100000→zfe (x:Int)=some false := fun x h=>by unfold zfe; rw [decide_eq_false (by omega),decide_eq_false (by omega)]; rfl
  have i1:zb0 [(a:Int),(b:Int)] FUEL 0=some (.inl ()) := by
    rw [hN]
    simp only [zb0,zcc,List.getD_cons_zero,List.getD_cons_succ,v1 a ha,v1 b hb,Option.bind_some]
    rfl
  have i2:zdi [(a:Int),(b:Int)] FUEL (a:Int) 1=some (min (a:Int) (b:Int)) := by
    rw [hN]
    simp only [zdi,zd4,List.getD_cons_zero,List.getD_cons_succ]
    rfl
  have em:min (a:Int) (b:Int)=((min a b:Nat):Int) := by omega
  generalize hm:min a b=m at *
  have hmb:m≤100000 := by omega
  have ht:(m:Int).tdiv (c:Int)=((m / c:Nat):Int) := (Int.ofNat_tdiv m c).symm
  have hq:m / c≤m := Nat.div_le_self _ _
  have hqc:m / c * c≤m := Nat.div_mul_le_self _ _
  have hw:IntKind.i64.wrap ((m:Int).tdiv (c:Int))=((m / c:Nat):Int) := by
    rw [ht]; generalize m / c=q at *; exact zcx (by omega) (by omega)
  have e1:((m / c:Nat):Int) * (c:Int)=((m / c * c:Nat):Int) := (Int.natCast_mul _ _).symm
  have e2:(([(a:Int),(b:Int)].length:Nat):Int) * ((m / c * c:Nat):Int)=((2 * (m / c * c):Nat):Int) := (Int.natCast_mul _ _).symm
  simp only [Option.bind_some]
  rw [if_neg (by simp),i1,zx4]
  simp only [Option.bind_some]
  rw [if_neg (by decide),if_neg (by simp)]; simp only [Option.bind_some]
  rw [grd_t (decide_eq_true (by simp)),show [(a:Int),(b:Int)].getD 0 0=(a:Int) from rfl,i2]; simp only [Option.bind_some]
  rw [em,grd_t (decide_eq_true (by omega)),hw,e1,e2]
  generalize m / c * c=v at *
  rw [grd_t (zku (by omega)),grd_t (zku (by omega))]
theorem z03 {c a b:Nat} (hc:1≤c) (h1:strL c a=strL c b) (h2:strO c a=strO c b):a=b := by
  unfold strL at h1
  unfold strO at h2
  have hr := Nat.mod_lt a (show 0 < c by omega)
  have hr' := Nat.mod_lt b (show 0 < c by omega)
  have h3:a / c / 2=b / c / 2 := by
    have e1 := congrArg (· / c) h2
    simp only [Nat.mul_comm _ c,Nat.mul_add_div (show 0 < c by omega),Nat.div_eq_of_lt hr,Nat.div_eq_of_lt hr'] at e1
    omega
  have h4:a % c=b % c := by rw [h3] at h2; omega
  have h5:a / c=b / c := by omega
  rw [← Nat.div_add_mod a c, ← Nat.div_add_mod b c,h5,h4]
theorem zub {c a:Nat} : strL c a < 2 := Nat.mod_lt _ (by omega)
end Go.Proofs.Ts
set_option linter.unusedSimpArgs false
set_option maxRecDepth 20000
namespace Go.Proofs
open Go.VG Ts
theorem zre:zbg Tryz.prog 52 0 [] 38 [] := fun w=>by kernel_rfl
theorem zp4 (v0:Int):zbg Tryz.prog 22 1 [(0,.int .i64 v0)] 3 [.int .i64 v0] := fun w=>by kernel_rfl
theorem zn7 (v0:Int) (v1:Int):∀ w,(Instr.build 133 (#[(0,.int .i64 v0),(1,.int .i64 v1)]:Array (Nat × Value))).run Tryz.prog w = .ok (.agg #[.int .i64 v0,.int .i64 v1]) w := fun w=>by kernel_rfl
theorem zma (v0:Int) (v1:Int) (v2:(Option Addr)) (v3:Nat) (v4:Nat) (v5:Int):∀ w,(Instr.build 135 (#[(0,.agg #[.int .i64 v0,.int .i64 v1]),(1,.slice v2 v3 v4),(2,.int .i64 v5)]:Array (Nat × Value))).run Tryz.prog w = .ok (.agg #[.int .i64 v0,.int .i64 v1,.slice v2 v3 v4,.int .i64 v5]) w := fun w=>by kernel_rfl
theorem zwj {c a:Nat} (hc:1≤c∧c≤3) (ha:a≤100000):zd3 ⟨(c:Int),2⟩ (a:Int)=some (((strL c a:Nat):Int),((strO c a:Nat):Int)) := by
  have hc3:c=1∨c=2∨c=3 := by omega
  have hw:∀ x:Nat,x≤300000→IntKind.i64.wrap (x:Int)=(x:Int) := fun x h=>zcx (by omega) (by omega)
  have hi:∀ x:Nat,x≤400000→inI64 (x:Int)=true := fun x h=>by unfold inI64; simp; omega
  have e1:(a:Int).tdiv (c:Int)=((a / c:Nat):Int) := rfl
  have e2:(a:Int).tmod (c:Int)=((a % c:Nat):Int) := rfl
  have hb:a / c≤100000 := Nat.le_trans (Nat.div_le_self ..) ha
  have e3:((a / c:Nat):Int).tdiv 2=((a / c / 2:Nat):Int) := rfl
  have e4:((a / c:Nat):Int).tmod 2=((a / c % 2:Nat):Int) := rfl
  have hb2:a / c / 2≤100000 := Nat.le_trans (Nat.div_le_self ..) hb
  have hm:a / c / 2 * c≤300000 := by
    generalize a / c / 2=x at hb2
    rcases hc3 with rfl | rfl | rfl <;> omega
  have hr:a % c≤3 := by have := Nat.mod_lt a (show 0 < c by omega); omega
  have hcz:¬ (c:Int)=0 := by omega
  have m1:((a / c / 2:Nat):Int) * (c:Int)=((a / c / 2 * c:Nat):Int) := by push_cast; rfl
  have m2:((a / c / 2 * c:Nat):Int) + ((a % c:Nat):Int)=((a / c / 2 * c + a % c:Nat):Int) := by push_cast; rfl
  unfold zd3 strL strO
  simp only [e1,e2,hw _ (show a / c≤300000 by omega),e3,e4,hw _ (show a / c / 2≤300000 by omega),m1,m2,grd,lt,hi _ (show a / c / 2 * c≤400000 by omega),hi _ (show a / c / 2 * c + a % c≤400000 by omega),decide_eq_true hcz]
  rfl
theorem z04 {W:World} {B:TS→HP} {vs:List IfH} {dep rc wc:Nat} {sz:Nat→Nat} (hB:BaseOk Tryz.prog B vs.length dep rc wc sz (fun i=>vs.getD i tyDev.dflt)) {t:TS} {q c n a:Nat} {rv:Sl3} (hd:t.dn=false) (hc:1≤c∧c≤3) (hn:n≤100000) (ha:a < n) (hL:strL c a < vs.length) (hO:strO c a < sz (strL c a)) (hk:rc≤t.k) :
    CSpec Tryz.prog W 305 [ptr q 0,.int .i64 (a:Int)] [B t,blk q 135 [.int .i64 (c:Int),.int .i64 2,rv.v,.int .i64 (n:Int)],sl tyDev rv.v vs] (fun ok:Bool => .tuple #[.int .u64 ((if ok then Ts.now t (strL c a) (strO c a) else 0:UInt64).toNat:Int),.int .i64 (if ok then 0 else 5)]) (fun ok=>ok=false→t.safe=false) (fun ok F=>B (t.rdS rc ok)::blk q 135 [.int .i64 (c:Int),.int .i64 2,rv.v,.int .i64 (n:Int)]::sl tyDev rv.v vs::F) := by
 refine CSpec.of_body Tryz.func305 rfl Tryz.ntmps305 rfl fun F => ?_
 show CJ _ _ _ _ _ _ (_::_::_::F)
 refine sR<|oA rfl<|oA rfl<|nT<|zab<|sR<|oM rfl<|oP (P_lss rfl rfl)<|oM rfl<|zbp 10 false rfl (by first | exact decide_eq_false (by first | omega | (simp; done) | (simp; omega)) | (first | omega | (simp; done) | (simp; omega))) fun hg1B=>p_ rfl rfl rfl hg1B (zae rfl)<|p_ rfl rfl rfl hg1B (zae rfl)<|p_ rfl rfl rfl hg1B (zad rfl)<|p_ rfl rfl rfl hg1B (zaa rfl ⟨_,_,_,Tryz.runUnderlying135,rfl,rfl,Tryz.sizeOf3,rfl⟩)<|v_ rfl rfl rfl hg1B (zac rfl foc1 rfl Tryz.isAgg3)<|p_ rfl rfl rfl hg1B (P_geq rfl rfl)<|oP (za2 rfl hg1B rfl)<|nT<|zap rfl (by first | exact decide_eq_false (by first | omega | (simp; done) | (simp; omega)) | (first | omega | (simp; done) | (simp; omega)))<|kT<|sR<|oM rfl<|oP (zad rfl)<|oP (zaa rfl ⟨_,_,_,Tryz.runUnderlying135,rfl,rfl,Tryz.sizeOf133,rfl⟩)<|oV (zbq rfl foc1 Tryz.isAgg133 Tryz.sizeOf133 rfl rfl)<|oM rfl<|oO<|zai (zg0 (zwj hc (by omega))) rfl Tryz.call308 Dels.nil rfl fun _ hc1=>oM rfl<|oP (zaj rfl rfl)<|oP (zaj rfl rfl)<|oA rfl<|oA rfl<|nT<|sR<|oM rfl<|oP (zad rfl)<|oP (zaa rfl ⟨_,_,_,Tryz.runUnderlying135,rfl,rfl,Tryz.sizeOf52,rfl⟩)<|oV (zac rfl foc1 rfl Tryz.isAgg52)<|oM rfl ?_
 first | (refine RJ_op rfl (OJ_V (zam rfl rfl rfl (by omega) foc2 (Reads.sl _ _ _) Tryz.runUnderlying52 Tryz.sizeOf38) rfl ?_)) | (refine RJ_op rfl (OJ_V (zam rfl rfl (Int.toNat_of_nonneg (by omega)).symm (by omega) foc2 (Reads.sl _ _ _) Tryz.runUnderlying52 Tryz.sizeOf38) rfl ?_))
 refine oV (za6 rfl rfl (by omega) foc2 (Reads.sl _ _ _) rfl rfl Tryz.isAgg38)<|oM rfl<|oO<|zbz rfl (IOk.call (hB.rd (i:=(strL c a)) (a:=(strO c a)) hL hO hd hk) (Nat.le_trans hB.depb (by decide))) rfl (dC_ del0) rfl fun o2 ho3=>oP (zaj rfl rfl)<|oP (zaj rfl rfl)<|oA rfl<|oA rfl<|nT<|zaf<|zan (res2 Tryz.results305 rfl rfl)<|CSpec.close o2 ?_ ?_ r_
 · rfl
 · exact ho3
theorem zyg {W:World} {B:TS→HP} {vs:List IfH} {dep rc wc:Nat} {sz:Nat→Nat} (hB:BaseOk Tryz.prog B vs.length dep rc wc sz (fun i=>vs.getD i tyDev.dflt)) {t:TS} {q c n a:Nat} {rv:Sl3} (hd:t.dn=false) (hc:1≤c∧c≤3) (hn:n≤100000) (ha:a < n) (hL:strL c a < vs.length) (hO:strO c a < sz (strL c a)) {v:UInt64} (hk:wc≤t.k) :
    CSpec Tryz.prog W 307 [ptr q 0,.int .i64 (a:Int),.int .u64 (v.toNat:Int)] [B t,blk q 135 [.int .i64 (c:Int),.int .i64 2,rv.v,.int .i64 (n:Int)],sl tyDev rv.v vs] (fun ok:Bool => .int .i64 (if ok then 0 else 5)) (fun ok=>ok=false→t.safe=false) (fun ok F=>B (t.wrS wc (strL c a) (strO c a) v ok)::blk q 135 [.int .i64 (c:Int),.int .i64 2,rv.v,.int .i64 (n:Int)]::sl tyDev rv.v vs::F) := by
 refine CSpec.of_body Tryz.func307 rfl Tryz.ntmps307 rfl fun F => ?_
 show CJ _ _ _ _ _ _ (_::_::_::F)
 refine sR<|oA rfl<|nT<|zab<|sR<|oM rfl<|oP (P_lss rfl rfl)<|oM rfl<|zbp 11 false rfl (by first | exact decide_eq_false (by first | omega | (simp; done) | (simp; omega)) | (first | omega | (simp; done) | (simp; omega))) fun hg1B=>p_ rfl rfl rfl hg1B (zae rfl)<|p_ rfl rfl rfl hg1B (zae rfl)<|p_ rfl rfl rfl hg1B (zad rfl)<|p_ rfl rfl rfl hg1B (zaa rfl ⟨_,_,_,Tryz.runUnderlying135,rfl,rfl,Tryz.sizeOf3,rfl⟩)<|v_ rfl rfl rfl hg1B (zac rfl foc1 rfl Tryz.isAgg3)<|p_ rfl rfl rfl hg1B (P_geq rfl rfl)<|oP (za2 rfl hg1B rfl)<|nT<|zap rfl (by first | exact decide_eq_false (by first | omega | (simp; done) | (simp; omega)) | (first | omega | (simp; done) | (simp; omega)))<|kT<|sR<|oM rfl<|oP (zad rfl)<|oP (zaa rfl ⟨_,_,_,Tryz.runUnderlying135,rfl,rfl,Tryz.sizeOf133,rfl⟩)<|oV (zbq rfl foc1 Tryz.isAgg133 Tryz.sizeOf133 rfl rfl)<|oM rfl<|oO<|zai (zg0 (zwj hc (by omega))) rfl Tryz.call308 Dels.nil rfl fun _ hc1=>oM rfl<|oP (zaj rfl rfl)<|oP (zaj rfl rfl)<|oA rfl<|oA rfl<|nT<|sR<|oM rfl<|oP (zad rfl)<|oP (zaa rfl ⟨_,_,_,Tryz.runUnderlying135,rfl,rfl,Tryz.sizeOf52,rfl⟩)<|oV (zac rfl foc1 rfl Tryz.isAgg52)<|oM rfl ?_
 first | (refine RJ_op rfl (OJ_V (zam rfl rfl rfl (by omega) foc2 (Reads.sl _ _ _) Tryz.runUnderlying52 Tryz.sizeOf38) rfl ?_)) | (refine RJ_op rfl (OJ_V (zam rfl rfl (Int.toNat_of_nonneg (by omega)).symm (by omega) foc2 (Reads.sl _ _ _) Tryz.runUnderlying52 Tryz.sizeOf38) rfl ?_))
 refine oV (za6 rfl rfl (by omega) foc2 (Reads.sl _ _ _) rfl rfl Tryz.isAgg38)<|oM rfl<|oM rfl<|oO<|zbz rfl (IOk.call (hB.wr (i:=(strL c a)) (a:=(strO c a)) (v:=v) hL hO hd hk) (Nat.le_trans hB.depb (by decide))) rfl (dC_ del0) rfl fun o2 ho3=>oA rfl<|nT<|zaf<|zan (res1 Tryz.results307 rfl)<|CSpec.close o2 ?_ ?_ r_
 · rfl
 · exact ho3
theorem z05 {W:World} {q c n:Nat} {rv:Sl3} :
    CSpec Tryz.prog W 306 [ptr q 0] [blk q 135 [.int .i64 (c:Int),.int .i64 2,rv.v,.int .i64 (n:Int)]] (fun _:Unit => .int .i64 (n:Int)) (fun _=>True) (fun _ F=>blk q 135 [.int .i64 (c:Int),.int .i64 2,rv.v,.int .i64 (n:Int)]::F) := by
 refine CSpec.of_body Tryz.func306 rfl Tryz.ntmps306 rfl fun F => ?_
 show CJ _ _ _ _ _ _ (_::F)
 refine sR<|oA rfl<|nT<|sR<|oM rfl<|oP (zad rfl)<|oP (zaa rfl ⟨_,_,_,Tryz.runUnderlying135,rfl,rfl,Tryz.sizeOf3,rfl⟩)<|oV (zac rfl foc0 rfl Tryz.isAgg3)<|oA rfl<|nT<|zaf<|zan (res1 Tryz.results306 rfl)<|CSpec.close () ?_ ?_ r_
 · rfl
 · trivial
theorem zyh {W:World} {B:TS→HP} {vs:List IfH} {dep rc wc:Nat} {sz:Nat→Nat} (hB:BaseOk Tryz.prog B vs.length dep rc wc sz (fun i=>vs.getD i tyDev.dflt)) {t:TS} {q c n:Nat} {rv:Sl3} (hd:t.dn=false) (hvl:vs.length≤8) :
    CSpec Tryz.prog W 304 [ptr q 0] [B t,blk q 135 [.int .i64 (c:Int),.int .i64 2,rv.v,.int .i64 (n:Int)],sl tyDev rv.v vs] (fun _:Unit => .int .i64 0) (fun _=>True) (fun _ F=>B (t.flsN vs.length)::blk q 135 [.int .i64 (c:Int),.int .i64 2,rv.v,.int .i64 (n:Int)]::sl tyDev rv.v vs::F) := by
 refine CSpec.of_body Tryz.func304 rfl Tryz.ntmps304 rfl fun F => ?_
 show CJ _ _ _ _ _ _ (_::_::_::F)
 refine sR<|oA rfl<|nT<|sR<|oA rfl<|nT<|zab<|sR<|oM rfl<|oP (zad rfl)<|oP (zaa rfl ⟨_,_,_,Tryz.runUnderlying135,rfl,rfl,Tryz.sizeOf52,rfl⟩)<|oV (zac rfl foc1 rfl Tryz.isAgg52)<|oV (V_len rfl foc2 (Reads.sl _ _ _) Tryz.runUnderlying52)<|oM rfl<|nT<|zao<|za8 (X:=Nat) [3,5,6,12,13,14,15,16,17,18,19,20,21] (fun i  => ([(12,.int .i64 (i:Nat)),(3,.int .i64 0)]:Slots)) (fun i R=>B (t.flsN i)::R) (fun i  => i≤vs.length) (fun i  => vs.length - i) (0) ?_ ?_ r_ ?_
 · exact Nat.zero_le _
 · exact ⟨rfl,rfl,True.intro⟩
 ·
  intro i hil
  show CJ _ _ _ _ _ (([(12,.int .i64 (i:Nat)),(3,.int .i64 0)]:Slots) ++ forget _ _) (B (t.flsN i)::_)
  have hdi:(t.flsN i).dn=false := by rw [zgy]; exact hd
  refine sR<|oP (P_lss rfl rfl)<|nT<|zab ?_
  first | (refine zav rfl (fun hg1 => ?_) (fun hg1 => ?_)) | (refine zaw rfl (fun hg1 => ?_) (fun hg1 => ?_)) | (refine za1 rfl (fun hg1 => ?_) (fun hg1 => ?_))
  ·
   refine kT<|zab<|zao<|sR ?_
   have hi:i < vs.length := by omega
   first | (refine RJ_op rfl (OJ_V (zam rfl rfl rfl (by omega) foc2 (Reads.sl _ _ _) Tryz.runUnderlying52 Tryz.sizeOf38) rfl ?_)) | (refine RJ_op rfl (OJ_V (zam rfl rfl (Int.toNat_of_nonneg (by omega)).symm (by omega) foc2 (Reads.sl _ _ _) Tryz.runUnderlying52 Tryz.sizeOf38) rfl ?_))
   refine oV (za6 rfl rfl (by omega) foc2 (Reads.sl _ _ _) rfl rfl Tryz.isAgg38)<|oA rfl<|nT<|sR<|oM rfl<|oO<|zbz rfl (IOk.call (hB.fl (i:=i) hi hdi) (Nat.le_trans hB.depb (by decide))) rfl (dC_ del0) rfl fun o1 ho2=>oA rfl<|nT<|sR<|oM rfl<|oP (P_eql rfl rfl)<|nT ?_
   first | (refine zav rfl (fun hg2 => ?_) (fun hg2 => ?_)) | (refine zaw rfl (fun hg2 => ?_) (fun hg2 => ?_)) | (refine za1 rfl (fun hg2 => ?_) (fun hg2 => ?_))
   ·
    refine zag<|oM rfl<|oA rfl<|za0<|zah<|zar<|zag<|oP (P_add rfl rfl (by omega))<|oM rfl<|za0<|zba (i + 1) (by first | omega | (simp only []; omega)) ?_ kP_ ?_ r_
    · show i + 1≤vs.length; omega
    · exact ⟨rfl,rfl,True.intro⟩
   ·
    refine zbh<|zah<|zar<|zag<|oP (P_add rfl rfl (by omega))<|oM rfl<|za0<|zba (i + 1) (by first | omega | (simp only []; omega)) ?_ kP_ ?_ r_
    · show i + 1≤vs.length; omega
    · exact ⟨rfl,rfl,True.intro⟩
  ·
   refine zbc<|zay<|zau<|zat<|zar<|sR<|oM rfl<|oA rfl<|nT<|zaf ?_
   obtain rfl:i=vs.length := by omega
   refine zan (res1 Tryz.results304 rfl)<|CSpec.close () ?_ ?_ r_
   · rfl
   · trivial
theorem zsm {W:World} {A:HP} {v:Sl3} {xs:List IfH} (hA:Reads A tyDev v.v xs) (hl:xs.length≤1048576) :
    CSpec Tryz.prog W 51 [v.v] [A] (fun x:Sl3=>x.v) (fun _=>True) (fun x F=>sl tyDev x.v xs::A::F) := by
 refine CSpec.of_body Tryz.func51 rfl Tryz.ntmps51 rfl fun F => ?_
 show CJ _ _ _ _ _ _ (_::F)
 refine sR<|oA rfl<|nT<|zab<|sR<|oM rfl<|oP (zz7 rfl rfl Tryz.underlying52)<|nT ?_
 first | (refine zav rfl (fun hg1 => ?_) (fun hg1 => ?_)) | (refine zaw rfl (fun hg1 => ?_) (fun hg1 => ?_)) | (refine za1 rfl (fun hg1 => ?_) (fun hg1 => ?_))
 ·
  refine sR<|oA rfl<|nT<|zaf<|zak<|zan (res1 Tryz.results51 rfl) ?_
  obtain ⟨vp,vn,vc⟩ := v
  obtain rfl:vp=none := by simpa using hg1
  refine fun w hs => ?_
  obtain rfl := zu3 hA _ hs.heap.choose_spec
  revert w hs
  show ∀ w,St W w _→_
  refine CSpec.close ⟨none,0,0⟩ ?_ ?_ (Ent.trans (fun h hh=>zch (t:=tyDev) h hh) r_)
  · rfl
  · trivial
 ·
  refine kT<|sR<|oO<|za4 rfl (zre) rfl fun b1=>zcg (Ent.trans r_ (zb5 (t:=tyDev) (m:=0) [] rfl rfl rfl (by decide)))<|oM rfl<|oO<|zb1 (t:=tyDev) (bytes:=16) rfl rfl del0 foc0 hA Tryz.underlying52 zny (by simp only [List.length_append,List.length_cons,List.length_nil,maxLen] at *; omega) (by simp only [List.length_append,List.length_cons,List.length_nil,maxLen] at *; omega) rfl fun p2 c3=>oA rfl<|nT<|zaf<|zan (res1 Tryz.results51 rfl)<|CSpec.close ⟨p2,_,c3⟩ ?_ ?_ r_
  · rfl
  · trivial
theorem c_sNew {W : World} {X : HP} {vs : List IfH} {dep : Nat} {sz : Nat → Nat} (hdp : dep ≤ 60) (hS : ∀ {W : World} (i : Nat), i < vs.length → IOk Tryz.prog W dep (vs.getD i tyDev.dflt) "Size" [] [X] (fun _ : Unit => .int .i64 (sz i : Int)) (fun _ => True) (fun _ F => X :: F)) {lv : Sl3} {c : Nat} (hc : 1 ≤ c ∧ c ≤ 3) (h2 : vs.length = 2) (hz : ∀ i, i < 2 → sz i ≤ 100000) :
    CSpec Tryz.prog W 21 [lv.v,.int .i64 (c:Int)] [X,sl tyDev lv.v vs] (fun x:Nat × Sl3 => .tuple #[.iface 131 (ptr x.1 0),.int .i64 0]) (fun _=>True) (fun x F=>X::blk x.1 135 [.int .i64 (c:Int),.int .i64 2,x.2.v,.int .i64 ((2 * (min (sz 0) (sz 1) / c * c):Nat):Int)]::sl tyDev x.2.v vs::sl tyDev lv.v vs::F) := by
 refine CSpec.of_body Tryz.func21 rfl Tryz.ntmps21 rfl fun F => ?_
 show CJ _ _ _ _ _ _ (_::_::F)
 refine sR<|oA rfl<|oA rfl<|nT<|sR<|oA rfl<|nT<|zab<|sR<|oM rfl<|oV (V_len rfl foc1 (Reads.sl _ _ _) Tryz.runUnderlying52)<|oM rfl<|nT<|zao<|zbs (fun h hh=>zch (t:=tyI) h hh)<|za8 (X:=Nat × Sl3) [6,8,13,14,15,16,17,18,19,20,21,22] (fun ⟨i,sv⟩  => ([(13,.int .i64 (i:Nat)),(6,sv.v)]:Slots)) (fun ⟨i,sv⟩ R=>sl tyI sv.v (szL sz i)::R) (fun ⟨i,sv⟩  => i≤vs.length) (fun ⟨i,sv⟩  => vs.length - i) ⟨0,⟨none,0,0⟩⟩ ?_ ?_ r_ ?_
 · exact Nat.zero_le _
 · exact ⟨rfl,rfl,True.intro⟩
 ·
  rintro ⟨i,sv⟩ hil
  show CJ _ _ _ _ _ (([(13,.int .i64 (i:Nat)),(6,sv.v)]:Slots) ++ forget _ _) (sl tyI sv.v (szL sz i)::_)
  have hsl := @z01 sz i
  refine sR<|oP (P_lss rfl rfl)<|nT<|zab ?_
  first | (refine zav rfl (fun hg1 => ?_) (fun hg1 => ?_)) | (refine zaw rfl (fun hg1 => ?_) (fun hg1 => ?_)) | (refine za1 rfl (fun hg1 => ?_) (fun hg1 => ?_))
  ·
   refine kT<|zab<|zao<|sR ?_
   first | (refine RJ_op rfl (OJ_V (zam rfl rfl rfl (by omega) foc2 (Reads.sl _ _ _) Tryz.runUnderlying52 Tryz.sizeOf38) rfl ?_)) | (refine RJ_op rfl (OJ_V (zam rfl rfl (Int.toNat_of_nonneg (by omega)).symm (by omega) foc2 (Reads.sl _ _ _) Tryz.runUnderlying52 Tryz.sizeOf38) rfl ?_))
   refine oV (za6 rfl rfl (by omega) foc2 (Reads.sl _ _ _) rfl rfl Tryz.isAgg38)<|oA rfl<|nT<|zag ?_
   have hi:i < vs.length := by omega
   refine oM rfl<|oM rfl<|oO<|zbz rfl (IOk.call (hS i hi) (Nat.le_trans hdp (by decide))) rfl (dC_ del1) rfl fun o1 ho2=>oO<|za4 rfl (zp4 _) rfl fun b3=>oO<|zb1 (t:=tyI) (bytes:=8) rfl rfl del2 foc0 (Reads.lit (t:=tyI) (ys:=[(sz i:Int)]) rfl rfl (by decide) (by decide) rfl) Tryz.underlying22 zr1 (by show (szL sz i).length + 1≤maxLen; rw [hsl]; unfold maxLen; omega) (by show ((szL sz i).length + 1) * 8≤_; rw [hsl]; omega) rfl fun p4 c5=>oA rfl<|za0<|zah<|zar<|zag<|oP (P_add rfl rfl (by omega))<|oM rfl<|za0<|zba ⟨i + 1,⟨p4,(szL sz i ++ [(sz i:Int)]).length,c5⟩⟩ (by first | omega | (simp only []; omega)) ?_ kP_ ?_ (Ent.takeC del0 (by rw [zyd]) (t1_ (t1_ (e_ r_))))
   · show i + 1≤vs.length; omega
   · exact ⟨rfl,rfl,True.intro⟩
  ·
   refine zbc<|zay<|zau<|zat<|zar<|zab ?_
   obtain rfl:i=2 := by omega
   have hsz2 := zyf hc (hz 0 (by decide)) (hz 1 (by decide))
   refine zag<|oM rfl<|oM rfl<|oO<|zai (zrd (Reads.sl _ _ _) (hsz2)) rfl Tryz.call52 (dC_ del0) rfl fun _ hc6=>oM rfl<|oP (zaj rfl rfl)<|oP (zaj rfl rfl)<|oA rfl<|oA rfl<|nT<|zab<|sR<|oM rfl<|oP (P_neq rfl rfl)<|nT<|zap rfl (by first | exact decide_eq_false (by simp) | (simp))<|kT<|sR<|oM rfl<|oM rfl<|oV (V_len rfl foc2 (Reads.sl _ _ _) Tryz.runUnderlying52)<|oP (zbk rfl (zn7 _ _))<|oM rfl<|oO<|zai (zsm (Reads.sl _ _ _) (by omega)) rfl Tryz.call51 (dC_ del2) rfl fun rv hc8=>oM rfl<|oP (zbk rfl (zma _ _ _ _ _ _))<|oO<|O_box rfl rfl rfl fun b9=>oP (zdu rfl Tryz.runUnderlying131 (by intro ms h; cases h))<|oA rfl<|oA rfl<|nT<|zaf<|zan (res2 Tryz.results21 rfl rfl)<|CSpec.close (b9,rv) ?_ ?_ (t4_ (Ent.takeC del0 (by rw [h2]; rfl) (t0_ (t0_ (e_ r_)))))
   · rfl
   · trivial
end Go.Proofs
namespace Go.Proofs.Ts
open Go.VG
theorem zf4 {A:HP} {l F:List HP} : Ent ([A,star l] ++ F) (A::l ++ ([] ++ F)) := fun _ hp=>zas (fun _ hq=>stars_star.1 hq) hp
theorem zfv {A:HP} {l F:List HP} : Ent (A::(l ++ F)) (A::star l::F) := fun _ hp=>zas (fun _ hq=>stars_star.2 hq) hp
theorem zj1 {A:HP} {l F:List HP} : Ent (A::(l ++ F)) (A::star []::F) := fun _ hp=>zas (fun _ hq=>(stars_star (Hs:=[])).2 (zhz l hq)) hp
theorem zoz {P : Program} {B : TS → HP} {val : IfH} {dep rc wc sz L : Nat} {lg off : Nat → Nat} (l : List HP) (zk : Bool) (hna : ∀ n, 100 ≤ n → ∀ w, (nilAhead n val.t val.u "Write").run P w = .ok (some false) w) (hdep : dep ≤ 60) (hsz : sz ≤ 100000)
    (hl:∀ a,a < sz→lg a < L) (hi:∀ a b,a < sz→b < sz→lg a=lg b→off a=off b→a=b)
    (size : ∀ {W : World}, IOk P W dep val "Size" [] l (fun _ : Unit => .int .i64 (sz : Int)) (fun _ => True) (fun _ F => l ++ F))
    (rd : ∀ {W : World} {t : TS} {a : Nat}, t.dn = false → a < sz → rc ≤ t.k → IOk P W dep val "Read" [.int .i64 (a : Int)] (B t :: l) (fun ok : Bool => .tuple #[.int .u64 ((if ok then now t (lg a) (off a) else 0 : UInt64).toNat : Int), .int .i64 (if ok then 0 else 5)]) (fun ok => ok = false → t.safe = false) (fun ok F => B (t.rdS rc ok) :: (l ++ F)))
    (wr : ∀ {W : World} {t : TS} {a : Nat} {v : UInt64}, t.dn = false → a < sz → wc ≤ t.k → IOk P W dep val "Write" [.int .i64 (a : Int), .int .u64 (v.toNat : Int)] (B t :: l) (fun ok : Bool => .int .i64 (if ok then 0 else 5)) (fun ok => ok = false → t.safe = false) (fun ok F => B (t.wrS wc (lg a) (off a) v ok) :: (l ++ F)))
    (fl : ∀ {W : World} {t : TS}, t.dn = false → IOk P W dep val "Flush" [] (B t :: l) (fun _ : Unit => .int .i64 0) (fun _ => True) (fun _ F => B (t.flsN L) :: (l ++ F))) :
    NodeC P B (M:=Unit) (fun _=>star l) val dep rc wc sz zk (fun t _ nw cd=>relM lg off sz t nw cd) (relMD lg off sz) where
  depb := hdep
  szb := hsz
  na := hna
  size := IOk.conseq (G:=[]) size (fun F _ hp=>stars_star.1 hp) (fun _ F _ hp=>stars_star.2 hp)
  rd := by
    intro W t m nw cd a hr hd ha hk
    refine IOk.map (fun ok:Bool=>((ok,t.rdS rc ok,()):Bool × TS × Unit)) (IOk.conseq (G:=[]) (rd hd ha hk) (fun F=>zf4) (fun _ F=>Ent.refl)) (fun ok => ?_) (fun ok h => ?_) (fun ok F => ?_)
    · cases ok
      · rfl
      · show _=Value.tuple #[.int .u64 ((nw a).toNat:Int),.int .i64 0]
        rw [(hr a ha).1]; rfl
    · refine ⟨fun h1 => ?_,fun h1=>⟨?_,h h1⟩,zsk hd,Par.rd,fun _ hz=>rdS_z hz⟩
      · have h2:ok=true := h1
        subst h2; exact hr.ext rfl rfl
      · have h2:ok=false := h1
        subst h2; exact hr.ud
    · cases ok
      · exact zj1
      · exact zfv
  wr := by
    intro W t m nw cd a v hr hd ha hk
    have hput:relM lg off sz (t.put (lg a) (off a) v) (nput nw a v) (cput cd a v) := relM.put hi hr ha
    refine IOk.map (fun ok:Bool=>((ok,t.wrS wc (lg a) (off a) v ok,()):Bool × TS × Unit)) (IOk.conseq (G:=[]) (wr hd ha hk) (fun F=>zf4) (fun _ F=>Ent.refl)) (fun ok=>rfl) (fun ok h => ?_) (fun ok F => ?_)
    · refine ⟨fun h1 => ?_,fun h1=>⟨?_,h h1⟩,zwe hd,Par.wr,fun _ hz hv=>wrS_z hz hv,fun h1 => ?_⟩
      · have h2:ok=true := h1
        subst h2; exact hput.ext rfl rfl
      · have h2:ok=false := h1
        subst h2; exact hput.ud
      · have h2:ok=true := h1
        subst h2; exact Nat.le_refl _
    · cases ok
      · exact zj1
      · exact zfv
  fl := by
    intro W t m nw cd hr hd
    refine IOk.map (fun _:Unit=>((t.flsN L,()):TS × Unit)) (IOk.conseq (G:=[]) (fl hd) (fun F=>zf4) (fun _ F=>Ent.refl)) (fun _=>rfl) (fun _ _ => ?_) (fun _ F=>zfv)
    exact ⟨hr.flsN hl,by rw [zgy]; exact hd,Par.flsN,fun _ h=>by rw [zsl]; exact h⟩
  ext h h1 h2 _ := h.ext h1 h2
  ud h := h.ud
  nc h a ha := h.nc ha
end Go.Proofs.Ts
set_option linter.unusedSimpArgs false
set_option maxRecDepth 20000
namespace Go.Proofs
open Go.VG Ts
theorem zp5 (v0:(Option Addr)) (v1:Nat) (v2:Nat):∀ w,(Instr.build 128 (#[(0,.slice v0 v1 v2)]:Array (Nat × Value))).run Tryz.prog w = .ok (.agg #[.slice v0 v1 v2,.slice none 0 0]) w := fun w=>by kernel_rfl
theorem zp6 (v0:Int):zbg Tryz.prog 22 1 [(0,.int .i64 v0)] 3 [.int .i64 v0] := fun w=>by kernel_rfl
theorem zip {n m a:Nat} (ha:a < n + m):catL n a < 2∧(catL n a=0→catO n a < n)∧(catL n a=1→catO n a < m) := by
  unfold catL catO
  by_cases h:a < n
  · simp [h]
  · simp [h]; omega
theorem cat_r {n m a r:Nat} (ha:a < n + m) (h1:r≤2) (h2:∀ k,k < r→(decide ((a:Int) < [(n:Int),((n + m:Nat):Int)].getD k 0))=false) (h3:r < 2→(decide ((a:Int) < [(n:Int),((n + m:Nat):Int)].getD r 0))=true):r=catL n a := by
  have hr:r=0∨r=1∨r=2 := by omega
  unfold catL
  rcases hr with rfl | rfl | rfl
  · have h4 := of_decide_eq_true (h3 (by decide))
    have h5:(a:Int) < (n:Int) := h4
    rw [if_pos (by omega)]
  · have h4 := of_decide_eq_false (h2 0 (by decide))
    have h5:¬ (a:Int) < (n:Int) := h4
    rw [if_neg (by omega)]
  · have h4 := of_decide_eq_false (h2 1 (by decide))
    have h5:¬ (a:Int) < ((n + m:Nat):Int) := h4
    omega
theorem zyi {n m a:Nat} : ∀ x y,x≤y→y < 2→decide ((a:Int) < [(n:Int),((n + m:Nat):Int)].getD x 0)=true→decide ((a:Int) < [(n:Int),((n + m:Nat):Int)].getD y 0)=true := fun x y h1 h2 h3=>by
  have h:(x=0∧y=0)∨(x=0∧y=1)∨(x=1∧y=1) := by omega
  rcases h with ⟨rfl,rfl⟩ | ⟨rfl,rfl⟩ | ⟨rfl,rfl⟩
  · exact h3
  · have h4:(a:Int) < (n:Int) := of_decide_eq_true h3
    exact decide_eq_true (show (a:Int) < ((n + m:Nat):Int) by omega)
  · exact h3
section
variable {B:TS→HP} {vs:List IfH} {dep rc wc:Nat} {sz:Nat→Nat}
theorem zjh {c a:Nat} (h2:vs.length=2) (hc:1≤c) (ha:a < 2 * (min (sz 0) (sz 1) / c * c)):strL c a < vs.length∧strO c a < sz (strL c a) := by
  have h := zsj hc ha
  have hl := @zub c a
  refine ⟨by omega,?_⟩
  generalize strO c a=x at h ⊢
  have h3:strL c a=0∨strL c a=1 := by omega
  rcases h3 with h3 | h3 <;> rw [h3] <;> omega
theorem na_str {q : Nat} : ∀ n, 100 ≤ n → ∀ w, (nilAhead n 131 (ptr q 0) "Write").run Tryz.prog w = .ok (some false) w := fun n hn w => by
  obtain ⟨m,rfl⟩:∃ m,n=m + 1 := ⟨n - 1,by omega⟩
  kernel_rfl
theorem zyj (hB:BaseOk Tryz.prog B vs.length dep rc wc sz (fun i=>vs.getD i tyDev.dflt)) (h2:vs.length=2) (hdep:dep < 60) {c n q:Nat} {rv:Sl3} (hc:1≤c∧c≤3) (hn:n=2 * (min (sz 0) (sz 1) / c * c)) (hb:n≤100000) (zk:Bool) :
    NodeC Tryz.prog B (M:=Unit) (fun _=>star [blk q 135 [.int .i64 (c:Int),.int .i64 2,rv.v,.int .i64 (n:Int)],sl tyDev rv.v vs]) ⟨131,ptr q 0⟩ (dep + 1) rc wc n zk (fun t _ nw cd=>relM (strL c) (strO c) n t nw cd) (relMD (strL c) (strO c) n) :=
  zoz _ zk na_str (by omega) hb (L:=2) (fun a _=>zub) (fun a b _ _ h1 h2=>z03 hc.1 h1 h2)
    (IOk.conseq (G:=[sl tyDev rv.v vs]) (IOk.of (fun n w=>by kernel_rfl) Tryz.call306 z05) (fun _=>Ent.refl) (fun _ _=>Ent.refl))
    (fun hd ha hk=>IOk.of (fun n w=>by kernel_rfl) Tryz.call305 (z04 hB hd hc hb ha (zjh (sz:=sz) h2 hc.1 (hn ▸ ha)).1 (zjh h2 hc.1 (hn ▸ ha)).2 hk))
    (fun hd ha hk=>IOk.of (fun n w=>by kernel_rfl) Tryz.call307 (zyg hB hd hc hb ha (zjh (sz:=sz) h2 hc.1 (hn ▸ ha)).1 (zjh h2 hc.1 (hn ▸ ha)).2 hk))
    (fun {W t} hd=>IOk.post0 (IOk.of (fun n w=>by kernel_rfl) Tryz.call304 (zyh hB hd (by omega))) (fun _ F=>by rw [h2]; exact Ent.refl))
end
theorem zyk {W:World} {A:HP} {fv:Value} {n:Nat} {p:Nat→Bool} (hn:n≤1000) (hf:∀ {W:World} (k:Nat),k < n→FOk Tryz.prog W fv [.int .i64 (k:Int)] [A] (fun _:Unit => .bool (p k)) (fun _=>True) (fun _ F=>A::F)) (hm:∀ a b,a≤b→b < n→p a=true→p b=true) :
    CSpec Tryz.prog W 302 [.int .i64 (n:Int),fv] [A] (fun r:Nat => .int .i64 (r:Int)) (fun r=>r≤n∧(∀ k,k < r→p k=false)∧(r < n→p r=true)) (fun _ F=>A::F) := by
 refine CSpec.of_body Tryz.func302 rfl Tryz.ntmps302 rfl fun F => ?_
 show CJ _ _ _ _ _ _ (_::F)
 refine sR<|oA rfl<|nT<|sR<|oM rfl<|oA rfl<|oA rfl<|nT<|zab<|zao<|za8 (X:=Nat × Nat) [5,6,7,9,10,11,12,13,14,15,16,17,18,19,20,21,22,23,24] (fun ⟨i,j⟩  => ([(5,.int .i64 (i:Int)),(6,.int .i64 (j:Int))]:Slots)) (fun ⟨i,j⟩ R=>R) (fun ⟨i,j⟩  => i≤j∧j≤n∧(∀ k,k < i→p k=false)∧(∀ k,j≤k→k < n→p k=true)) (fun ⟨i,j⟩  => j - i) ⟨0,n⟩ ?_ ?_ r_ ?_
 · exact ⟨Nat.zero_le _,Nat.le_refl _,fun k hk=>absurd hk (by omega),fun k hk hn=>absurd hn (by omega)⟩
 · exact ⟨rfl,rfl,True.intro⟩
 ·
  rintro ⟨i,j⟩ hij
  show CJ _ _ _ _ _ (([(5,.int .i64 (i:Int)),(6,.int .i64 (j:Int))]:Slots) ++ forget _ _) (_)
  obtain ⟨hij1,hij2, -, -⟩ := id hij
  refine zab<|sR<|oM rfl<|oM rfl<|oP (P_lss rfl rfl)<|nT ?_
  first | (refine zav rfl (fun hg1 => ?_) (fun hg1 => ?_)) | (refine zaw rfl (fun hg1 => ?_) (fun hg1 => ?_)) | (refine za1 rfl (fun hg1 => ?_) (fun hg1 => ?_))
  ·
   refine kT<|zao<|sR<|oM rfl<|oM rfl<|oP (P_add rfl rfl (by omega))<|oP (ze5 rfl Tryz.runUnderlying3 Tryz.runUnderlying188)<|oP (zec (a:=zdn ((i:Int) + (j:Int))) (m:=1) rfl rfl rfl)<|oP (PJ_eq (v := .int .i64 (((i + j) / 2:Nat):Int)) (zll rfl Tryz.runUnderlying188 Tryz.runUnderlying3) (congrArg (Value.int .i64) (half (a:=i + j) (by omega)).symm))<|oA rfl<|nT<|sR<|oM rfl<|oM rfl<|oO<|zgz rfl rfl (hf ((i + j) / 2) (by omega)) (dC_ del0) rfl fun _ _=>oP (P_not rfl)<|nT ?_
   first | (refine zav rfl (fun hg2 => ?_) (fun hg2 => ?_)) | (refine zaw rfl (fun hg2 => ?_) (fun hg2 => ?_)) | (refine za1 rfl (fun hg2 => ?_) (fun hg2 => ?_))
   ·
    refine zag<|oM rfl<|oP (P_add rfl rfl (by omega))<|oA rfl<|za0<|zah<|zba ⟨(i + j) / 2 + 1,j⟩ (by show j - ((i + j) / 2 + 1) < j - i; omega) ?_ kP_ ?_ r_
    ·
     refine ⟨by omega,hij.2.1,fun k hk => ?_,hij.2.2.2⟩
     cases hpk:p k
     · rfl
     · have h9 := hm k ((i + j) / 2) (by omega) (by omega) hpk
       rw [h9] at hg2; cases hg2
    · exact ⟨rfl,rfl,True.intro⟩
   ·
    refine zag<|oM rfl<|oA rfl<|za0<|zah<|zba ⟨i,(i + j) / 2⟩ (by show (i + j) / 2 - i < j - i; omega) ?_ kP_ ?_ r_
    ·
     refine ⟨by omega,by omega,hij.2.2.1,fun k hk hkn => ?_⟩
     have h9:p ((i + j) / 2)=true := by simpa using hg2
     exact hm _ k hk hkn h9
    · exact ⟨rfl,rfl,True.intro⟩
  ·
   refine zbc<|zay<|zau<|zat<|zar<|sR<|oM rfl<|oA rfl<|nT<|zaf ?_
   obtain rfl:i=j := by omega
   refine zan (res1 Tryz.results302 rfl)<|CSpec.close i ?_ ?_ r_
   · rfl
   · exact ⟨hij2,hij.2.2.1,fun h=>hij.2.2.2 i (Nat.le_refl _) h⟩
theorem zyl {W:World} {q x y a n0 n1 k:Nat} {rv ev:Sl3} (hk:k < 2) :
    CSpec Tryz.prog W 303 [.int .i64 (k:Int),ptr x 0,ptr y 0] [blk x 125 [ptr q 0],blk q 128 [rv.v,ev.v],sl tyI ev.v [(n0:Int),((n0 + n1:Nat):Int)],blk y 3 [.int .i64 (a:Int)]] (fun _:Unit => .bool (decide ((a:Int) < [(n0:Int),((n0 + n1:Nat):Int)].getD k 0))) (fun _=>True) (fun _ F=>blk x 125 [ptr q 0]::blk q 128 [rv.v,ev.v]::sl tyI ev.v [(n0:Int),((n0 + n1:Nat):Int)]::blk y 3 [.int .i64 (a:Int)]::F) := by
 refine CSpec.of_body Tryz.func303 rfl Tryz.ntmps303 rfl fun F => ?_
 show CJ _ _ _ _ _ _ (_::_::_::_::F)
 refine sR<|oA rfl<|nT<|zab<|za3 0 kR_ rfl<|aW 0 1 rfl rfl r_ (zac rfl foc0 rfl Tryz.isAgg125)<|aN 1 3 rfl rfl (zad rfl)<|aN 2 7 rfl rfl (zaa rfl ⟨_,_,_,Tryz.runUnderlying128,rfl,rfl,Tryz.sizeOf22,rfl⟩)<|aW 3 15 rfl rfl r_ (zac rfl foc1 rfl Tryz.isAgg22)<|aN 4 31 rfl rfl (zae rfl)<|aW 5 63 rfl rfl r_ (zam rfl rfl rfl (by show k < 2; exact hk) foc2 (Reads.sl _ _ _) Tryz.runUnderlying22 Tryz.sizeOf3)<|aW 6 127 rfl rfl r_ (za6 rfl rfl (by omega) foc2 (Reads.sl _ _ _) rfl rfl Tryz.isAgg3)<|aW 7 255 rfl rfl r_ (zac rfl foc3 rfl Tryz.isAgg3)<|aN 8 511 rfl rfl (P_gtr rfl rfl)<|aN 9 1023 rfl rfl (za9 rfl)<|aD<|zaf<|zan (res1 Tryz.results303 rfl)<|CSpec.close () ?_ ?_ r_
 · rfl
 · trivial
theorem zuc {W:World} {q a n0 n1:Nat} {rv ev:Sl3} {vs:List IfH} (h2:vs.length=2) (hb:n0 + n1≤100000) (ha:a < n0 + n1) :
    CSpec Tryz.prog W 301 [ptr q 0,.int .i64 (a:Int)] [blk q 128 [rv.v,ev.v],sl tyDev rv.v vs,sl tyI ev.v [(n0:Int),((n0 + n1:Nat):Int)]] (fun _:Unit => .tuple #[(vs.getD (catL n0 a) tyDev.dflt).v,.int .i64 ((catO n0 a:Nat):Int)]) (fun _=>True) (fun _ F=>blk q 128 [rv.v,ev.v]::sl tyDev rv.v vs::sl tyI ev.v [(n0:Int),((n0 + n1:Nat):Int)]::F) := by
 refine CSpec.of_body Tryz.func301 rfl Tryz.ntmps301 rfl fun F => ?_
 show CJ _ _ _ _ _ _ (_::_::_::F)
 refine sR<|oO<|O_box rfl rfl rfl fun b1=>oO<|O_box rfl rfl rfl fun b2=>oA rfl<|oA rfl<|nT<|sR<|oV (zac rfl foc1 rfl Tryz.isAgg125)<|oP (zad rfl)<|oP (zaa rfl ⟨_,_,_,Tryz.runUnderlying128,rfl,rfl,Tryz.sizeOf22,rfl⟩)<|oV (zac rfl foc2 rfl Tryz.isAgg22)<|oV (V_len rfl foc4 (Reads.sl _ _ _) Tryz.runUnderlying22)<|oP (zbb rfl rfl)<|oO<|zai ((CSpec.ofStar (G:=[blk b1 125 [ptr q 0],blk q 128 [rv.v,ev.v],sl tyI ev.v [(n0:Int),((n0 + n1:Nat):Int)],blk b2 3 [.int .i64 (a:Int)]]) (zyk (n:=2) (p:=fun k=>decide ((a:Int) < [(n0:Int),((n0 + n1:Nat):Int)].getD k 0)) (by decide) (fun k hk=>FOk.mk (first:=[]) (cap:=[ptr b1 0,ptr b2 0]) Tryz.call303 (CSpec.toStar (zyl hk))) zyi))) rfl Tryz.call302 (Dels.cons del1 (Dels.cons del1 (Dels.cons del2 (dC_ del0)))) rfl fun r9 hr9=>oA rfl<|nT<|zab<|zab ?_
 obtain rfl := cat_r ha hr9.1 hr9.2.1 hr9.2.2
 have hcl := (zip ha).1
 refine zag<|oM rfl<|oP (P_gtr rfl rfl)<|nT ?_
 first | (refine zav rfl (fun hg1 => ?_) (fun hg1 => ?_)) | (refine zaw rfl (fun hg1 => ?_) (fun hg1 => ?_)) | (refine za1 rfl (fun hg1 => ?_) (fun hg1 => ?_))
 ·
  have hca:catO n0 a=a - n0∧n0≤a := by
    unfold catL at hg1
    unfold catO
    by_cases h9:a < n0
    · rw [if_pos h9] at hg1; omega
    · rw [if_neg h9]; omega
  refine za3 1024 kR_ rfl<|aW 0 1 rfl rfl r_ (zac rfl foc3 rfl Tryz.isAgg3)<|aW 1 3 rfl rfl r_ (zac rfl foc0 rfl Tryz.isAgg125)<|aN 2 7 rfl rfl (zad rfl)<|aN 3 15 rfl rfl (zaa rfl ⟨_,_,_,Tryz.runUnderlying128,rfl,rfl,Tryz.sizeOf22,rfl⟩)<|aW 4 31 rfl rfl r_ (zac rfl foc1 rfl Tryz.isAgg22)<|aN 5 63 rfl rfl (zae rfl)<|aN 6 127 rfl rfl (P_sub rfl rfl (by first | omega | (simp; done) | (show -9223372036854775808≤(a:Int) - (n0:Int)∧(a:Int) - (n0:Int)≤9223372036854775807; omega)))<|aW 7 255 rfl rfl r_ (zam rfl rfl (show ((catL n0 a:Nat):Int) - 1=((0:Nat):Int) by omega) (by show 0 < 2; decide) foc2 (Reads.sl _ _ _) Tryz.runUnderlying22 Tryz.sizeOf3)<|aW 8 511 rfl rfl r_ (za6 rfl rfl (by first | omega | (simp; done) | (show -9223372036854775808≤(a:Int) - (n0:Int)∧(a:Int) - (n0:Int)≤9223372036854775807; omega)) foc2 (Reads.sl _ _ _) rfl rfl Tryz.isAgg3) ?_
  refine aN 9 1023 rfl rfl (P_sub rfl rfl (by first | omega | (simp; done) | (show -9223372036854775808≤(a:Int) - (n0:Int)∧(a:Int) - (n0:Int)≤9223372036854775807; omega)))<|AJ_op 10 2047 rfl kR_ rfl (zal rfl)<|za5 rfl rfl foc3 rfl rfl Tryz.sizeOf3<|⟨fun h=>absurd h (by decide),?_⟩
  refine aD<|zab<|za3 0 kR_ rfl<|aW 0 1 rfl rfl r_ (zac rfl foc0 rfl Tryz.isAgg125)<|aN 1 3 rfl rfl (zad rfl)<|aN 2 7 rfl rfl (zaa rfl ⟨_,_,_,Tryz.runUnderlying128,rfl,rfl,Tryz.sizeOf52,rfl⟩)<|aW 3 15 rfl rfl r_ (zac rfl foc1 rfl Tryz.isAgg52)<|aN 4 31 rfl rfl (zae rfl)<|aW 5 63 rfl rfl r_ (zam rfl rfl rfl (by show catL n0 a < vs.length; omega) foc4 (Reads.sl _ _ _) Tryz.runUnderlying52 Tryz.sizeOf38)<|aW 6 127 rfl rfl r_ (za6 rfl rfl (by first | omega | (simp; done) | (show -9223372036854775808≤(a:Int) - (n0:Int)∧(a:Int) - (n0:Int)≤9223372036854775807; omega)) foc4 (Reads.sl _ _ _) rfl rfl Tryz.isAgg38)<|aW 7 255 rfl rfl r_ (zac rfl foc3 rfl Tryz.isAgg3)<|aN 8 511 rfl rfl (za9 rfl)<|aN 9 1023 rfl rfl (za9 rfl)<|aD<|zaf<|zan (res2 Tryz.results301 rfl rfl)<|CSpec.close () ?_ ?_ (t1_ (t3_ (t1_ (e_ (e_ r_)))))
  ·
   rw [hca.1]
   exact congrArg (fun z=>Value.tuple #[_,.int .i64 z]) (show (a:Int) - (n0:Int)=((a - n0:Nat):Int) by omega)
  · trivial
 ·
  have hca:catO n0 a=a := by
    unfold catL at hg1
    unfold catO
    by_cases h9:a < n0
    · rw [if_pos h9]
    · rw [if_neg h9] at hg1; omega
  refine kT<|zab<|za3 0 kR_ rfl<|aW 0 1 rfl rfl r_ (zac rfl foc0 rfl Tryz.isAgg125)<|aN 1 3 rfl rfl (zad rfl)<|aN 2 7 rfl rfl (zaa rfl ⟨_,_,_,Tryz.runUnderlying128,rfl,rfl,Tryz.sizeOf52,rfl⟩)<|aW 3 15 rfl rfl r_ (zac rfl foc1 rfl Tryz.isAgg52)<|aN 4 31 rfl rfl (zae rfl)<|aW 5 63 rfl rfl r_ (zam rfl rfl rfl (by show catL n0 a < vs.length; omega) foc4 (Reads.sl _ _ _) Tryz.runUnderlying52 Tryz.sizeOf38)<|aW 6 127 rfl rfl r_ (za6 rfl rfl (by first | omega | (simp; done) | (show -9223372036854775808≤(a:Int) - (n0:Int)∧(a:Int) - (n0:Int)≤9223372036854775807; omega)) foc4 (Reads.sl _ _ _) rfl rfl Tryz.isAgg38)<|aW 7 255 rfl rfl r_ (zac rfl foc3 rfl Tryz.isAgg3)<|aN 8 511 rfl rfl (za9 rfl)<|aN 9 1023 rfl rfl (za9 rfl)<|aD<|zaf<|zan (res2 Tryz.results301 rfl rfl)<|CSpec.close () ?_ ?_ (t1_ (t3_ (t1_ (e_ (e_ r_)))))
  · rw [hca]
  · trivial
theorem zp7 {W:World} {q n0 n1:Nat} {rv ev:Sl3} :
    CSpec Tryz.prog W 299 [ptr q 0] [blk q 128 [rv.v,ev.v],sl tyI ev.v [(n0:Int),((n0 + n1:Nat):Int)]] (fun _:Unit => .int .i64 ((n0 + n1:Nat):Int)) (fun _=>True) (fun _ F=>blk q 128 [rv.v,ev.v]::sl tyI ev.v [(n0:Int),((n0 + n1:Nat):Int)]::F) := by
 refine CSpec.of_body Tryz.func299 rfl Tryz.ntmps299 rfl fun F => ?_
 show CJ _ _ _ _ _ _ (_::_::F)
 refine sR<|oA rfl<|nT<|zab<|sR<|oM rfl<|oP (zad rfl)<|oP (zaa rfl ⟨_,_,_,Tryz.runUnderlying128,rfl,rfl,Tryz.sizeOf22,rfl⟩)<|oV (zac rfl foc0 rfl Tryz.isAgg22)<|oV (V_len rfl foc1 (Reads.sl _ _ _) Tryz.runUnderlying22)<|oP (P_eql rfl rfl)<|nT<|zap rfl (by first | exact decide_eq_false (by show ¬ ((2:Nat):Int)=0; decide) | (show ¬ ((2:Nat):Int)=0; decide))<|kT<|zab<|za3 0 kR_ rfl<|aN 0 1 rfl rfl (zae rfl)<|aN 1 3 rfl rfl (zad rfl)<|aN 2 7 rfl rfl (zaa rfl ⟨_,_,_,Tryz.runUnderlying128,rfl,rfl,Tryz.sizeOf22,rfl⟩)<|aW 3 15 rfl rfl r_ (zac rfl foc0 rfl Tryz.isAgg22)<|aN 4 31 rfl rfl (zae rfl)<|aN 5 63 rfl rfl (zad rfl)<|aN 6 127 rfl rfl (zaa rfl ⟨_,_,_,Tryz.runUnderlying128,rfl,rfl,Tryz.sizeOf22,rfl⟩)<|aW 7 255 rfl rfl r_ (zac rfl foc0 rfl Tryz.isAgg22)<|aW 8 511 rfl rfl r_ (V_len rfl foc1 (Reads.sl _ _ _) Tryz.runUnderlying22)<|aN 9 1023 rfl rfl (P_sub rfl rfl (by first | omega | (simp; done) | (show -9223372036854775808≤((2:Nat):Int) - 1∧((2:Nat):Int) - 1≤9223372036854775807; decide))) ?_
 refine aW 10 2047 rfl rfl r_ (zam rfl rfl (show ((2:Nat):Int) - 1=((1:Nat):Int) from rfl) (by show 1 < 2; decide) foc1 (Reads.sl _ _ _) Tryz.runUnderlying22 Tryz.sizeOf3)<|aW 11 4095 rfl rfl r_ (za6 rfl rfl (by first | omega | (simp; done) | (show -9223372036854775808≤((2:Nat):Int) - 1∧((2:Nat):Int) - 1≤9223372036854775807; decide)) foc1 (Reads.sl _ _ _) rfl rfl Tryz.isAgg3)<|aN 12 8191 rfl rfl (za9 rfl)<|aD<|zaf<|zan (res1 Tryz.results299 rfl)<|CSpec.close () ?_ ?_ r_
 · rfl
 · trivial
theorem z06 {W:World} {B:TS→HP} {vs:List IfH} {dep rc wc:Nat} {sz:Nat→Nat} (hB:BaseOk Tryz.prog B vs.length dep rc wc sz (fun i=>vs.getD i tyDev.dflt)) {t:TS} {q a:Nat} {rv ev:Sl3} (hd:t.dn=false) (h2:vs.length=2) (hb:sz 0 + sz 1≤100000) (ha:a < sz 0 + sz 1) (hk:rc≤t.k) :
    CSpec Tryz.prog W 298 [ptr q 0,.int .i64 (a:Int)] [B t,blk q 128 [rv.v,ev.v],sl tyDev rv.v vs,sl tyI ev.v [(sz 0:Int),((sz 0 + sz 1:Nat):Int)]] (fun ok:Bool => .tuple #[.int .u64 ((if ok then Ts.now t (catL (sz 0) a) (catO (sz 0) a) else 0:UInt64).toNat:Int),.int .i64 (if ok then 0 else 5)]) (fun ok=>ok=false→t.safe=false) (fun ok F=>B (t.rdS rc ok)::blk q 128 [rv.v,ev.v]::sl tyDev rv.v vs::sl tyI ev.v [(sz 0:Int),((sz 0 + sz 1:Nat):Int)]::F) := by
 refine CSpec.of_body Tryz.func298 rfl Tryz.ntmps298 rfl fun F => ?_
 show CJ _ _ _ _ _ _ (_::_::_::_::F)
 have hL:catL (sz 0) a < vs.length := by have := (zip ha).1; omega
 have hO:catO (sz 0) a < sz (catL (sz 0) a) := by
   have h9 := zip ha
   have h8:catL (sz 0) a=0∨catL (sz 0) a=1 := by omega
   rcases h8 with h8 | h8
   · rw [h8]; exact h9.2.1 h8
   · rw [h8]; exact h9.2.2 h8
 refine sR<|oA rfl<|oA rfl<|nT<|zab<|sR<|oM rfl<|oO<|zai (zp7) rfl Tryz.call299 (Dels.cons del1 (dC_ del2)) rfl fun _ hc1=>oM rfl<|oO<|zai (zct (zio (n:=sz 0 + sz 1) (by omega))) rfl Tryz.call50 Dels.nil rfl fun _ hc2=>oP (P_not rfl)<|nT<|zap rfl (by first | exact decide_eq_false (by simp; omega) | (simp; omega))<|kT<|sR<|oM rfl<|oM rfl<|oO<|zai ((zuc h2 hb ha)) rfl Tryz.call301 (Dels.cons del0 (Dels.cons del2 (dC_ del0))) rfl fun _ hc3=>oM rfl<|oP (zaj rfl rfl)<|oP (zaj rfl rfl)<|oA rfl<|oA rfl<|nT<|sR<|oM rfl<|oM rfl<|oO<|zbz rfl (IOk.call (hB.rd (i:=(catL (sz 0) a)) (a:=(catO (sz 0) a)) hL hO hd hk) (Nat.le_trans hB.depb (by decide))) rfl (dC_ del3) rfl fun o4 ho5=>oP (zaj rfl rfl)<|oP (zaj rfl rfl)<|oA rfl<|oA rfl<|nT<|zaf<|zan (res2 Tryz.results298 rfl rfl)<|CSpec.close o4 ?_ ?_ r_
 · rfl
 · exact ho5
theorem zym {W:World} {B:TS→HP} {vs:List IfH} {dep rc wc:Nat} {sz:Nat→Nat} (hB:BaseOk Tryz.prog B vs.length dep rc wc sz (fun i=>vs.getD i tyDev.dflt)) {t:TS} {q a:Nat} {rv ev:Sl3} (hd:t.dn=false) (h2:vs.length=2) (hb:sz 0 + sz 1≤100000) (ha:a < sz 0 + sz 1) {v:UInt64} (hk:wc≤t.k) :
    CSpec Tryz.prog W 300 [ptr q 0,.int .i64 (a:Int),.int .u64 (v.toNat:Int)] [B t,blk q 128 [rv.v,ev.v],sl tyDev rv.v vs,sl tyI ev.v [(sz 0:Int),((sz 0 + sz 1:Nat):Int)]] (fun ok:Bool => .int .i64 (if ok then 0 else 5)) (fun ok=>ok=false→t.safe=false) (fun ok F=>B (t.wrS wc (catL (sz 0) a) (catO (sz 0) a) v ok)::blk q 128 [rv.v,ev.v]::sl tyDev rv.v vs::sl tyI ev.v [(sz 0:Int),((sz 0 + sz 1:Nat):Int)]::F) := by
 refine CSpec.of_body Tryz.func300 rfl Tryz.ntmps300 rfl fun F => ?_
 show CJ _ _ _ _ _ _ (_::_::_::_::F)
 have hL:catL (sz 0) a < vs.length := by have := (zip ha).1; omega
 have hO:catO (sz 0) a < sz (catL (sz 0) a) := by
   have h9 := zip ha
   have h8:catL (sz 0) a=0∨catL (sz 0) a=1 := by omega
   rcases h8 with h8 | h8
   · rw [h8]; exact h9.2.1 h8
   · rw [h8]; exact h9.2.2 h8
 refine sR<|oA rfl<|nT<|zab<|sR<|oM rfl<|oO<|zai (zp7) rfl Tryz.call299 (Dels.cons del1 (dC_ del2)) rfl fun _ hc1=>oM rfl<|oO<|zai (zct (zio (n:=sz 0 + sz 1) (by omega))) rfl Tryz.call50 Dels.nil rfl fun _ hc2=>oP (P_not rfl)<|nT<|zap rfl (by first | exact decide_eq_false (by simp; omega) | (simp; omega))<|kT<|sR<|oM rfl<|oM rfl<|oO<|zai ((zuc h2 hb ha)) rfl Tryz.call301 (Dels.cons del0 (Dels.cons del2 (dC_ del0))) rfl fun _ hc3=>oM rfl<|oP (zaj rfl rfl)<|oP (zaj rfl rfl)<|oA rfl<|oA rfl<|nT<|sR<|oM rfl<|oM rfl<|oM rfl<|oO<|zbz rfl (IOk.call (hB.wr (i:=(catL (sz 0) a)) (a:=(catO (sz 0) a)) (v:=v) hL hO hd hk) (Nat.le_trans hB.depb (by decide))) rfl (dC_ del3) rfl fun o4 ho5=>oA rfl<|nT<|zaf<|zan (res1 Tryz.results300 rfl)<|CSpec.close o4 ?_ ?_ r_
 · rfl
 · exact ho5
theorem zyn {W:World} {B:TS→HP} {vs:List IfH} {dep rc wc:Nat} {sz:Nat→Nat} (hB:BaseOk Tryz.prog B vs.length dep rc wc sz (fun i=>vs.getD i tyDev.dflt)) {t:TS} {q:Nat} {rv ev:Sl3} (hd:t.dn=false) (hvl:vs.length≤8) :
    CSpec Tryz.prog W 297 [ptr q 0] [B t,blk q 128 [rv.v,ev.v],sl tyDev rv.v vs,sl tyI ev.v [(sz 0:Int),((sz 0 + sz 1:Nat):Int)]] (fun _:Unit => .int .i64 0) (fun _=>True) (fun _ F=>B (t.flsN vs.length)::blk q 128 [rv.v,ev.v]::sl tyDev rv.v vs::sl tyI ev.v [(sz 0:Int),((sz 0 + sz 1:Nat):Int)]::F) := by
 refine CSpec.of_body Tryz.func297 rfl Tryz.ntmps297 rfl fun F => ?_
 show CJ _ _ _ _ _ _ (_::_::_::_::F)
 refine sR<|oA rfl<|nT<|sR<|oA rfl<|nT<|zab<|sR<|oM rfl<|oP (zad rfl)<|oP (zaa rfl ⟨_,_,_,Tryz.runUnderlying128,rfl,rfl,Tryz.sizeOf52,rfl⟩)<|oV (zac rfl foc1 rfl Tryz.isAgg52)<|oV (V_len rfl foc2 (Reads.sl _ _ _) Tryz.runUnderlying52)<|oM rfl<|nT<|zao<|za8 (X:=Nat) [3,5,6,12,13,14,15,16,17,18,19,20,21] (fun i  => ([(12,.int .i64 (i:Nat)),(3,.int .i64 0)]:Slots)) (fun i R=>B (t.flsN i)::R) (fun i  => i≤vs.length) (fun i  => vs.length - i) (0) ?_ ?_ r_ ?_
 · exact Nat.zero_le _
 · exact ⟨rfl,rfl,True.intro⟩
 ·
  intro i hil
  show CJ _ _ _ _ _ (([(12,.int .i64 (i:Nat)),(3,.int .i64 0)]:Slots) ++ forget _ _) (B (t.flsN i)::_)
  have hdi:(t.flsN i).dn=false := by rw [zgy]; exact hd
  refine sR<|oP (P_lss rfl rfl)<|nT<|zab ?_
  first | (refine zav rfl (fun hg1 => ?_) (fun hg1 => ?_)) | (refine zaw rfl (fun hg1 => ?_) (fun hg1 => ?_)) | (refine za1 rfl (fun hg1 => ?_) (fun hg1 => ?_))
  ·
   refine kT<|zab<|zao<|sR ?_
   have hi:i < vs.length := by omega
   first | (refine RJ_op rfl (OJ_V (zam rfl rfl rfl (by omega) foc2 (Reads.sl _ _ _) Tryz.runUnderlying52 Tryz.sizeOf38) rfl ?_)) | (refine RJ_op rfl (OJ_V (zam rfl rfl (Int.toNat_of_nonneg (by omega)).symm (by omega) foc2 (Reads.sl _ _ _) Tryz.runUnderlying52 Tryz.sizeOf38) rfl ?_))
   refine oV (za6 rfl rfl (by omega) foc2 (Reads.sl _ _ _) rfl rfl Tryz.isAgg38)<|oA rfl<|nT<|sR<|oM rfl<|oO<|zbz rfl (IOk.call (hB.fl (i:=i) hi hdi) (Nat.le_trans hB.depb (by decide))) rfl (dC_ del0) rfl fun o1 ho2=>oA rfl<|nT<|sR<|oM rfl<|oP (P_eql rfl rfl)<|nT ?_
   first | (refine zav rfl (fun hg2 => ?_) (fun hg2 => ?_)) | (refine zaw rfl (fun hg2 => ?_) (fun hg2 => ?_)) | (refine za1 rfl (fun hg2 => ?_) (fun hg2 => ?_))
   ·
    refine zag<|oM rfl<|oA rfl<|za0<|zah<|zar<|zag<|oP (P_add rfl rfl (by omega))<|oM rfl<|za0<|zba (i + 1) (by first | omega | (simp only []; omega)) ?_ kP_ ?_ r_
    · show i + 1≤vs.length; omega
    · exact ⟨rfl,rfl,True.intro⟩
   ·
    refine zbh<|zah<|zar<|zag<|oP (P_add rfl rfl (by omega))<|oM rfl<|za0<|zba (i + 1) (by first | omega | (simp only []; omega)) ?_ kP_ ?_ r_
    · show i + 1≤vs.length; omega
    · exact ⟨rfl,rfl,True.intro⟩
  ·
   refine zbc<|zay<|zau<|zat<|zar<|sR<|oM rfl<|oA rfl<|nT<|zaf ?_
   obtain rfl:i=vs.length := by omega
   refine zan (res1 Tryz.results297 rfl)<|CSpec.close () ?_ ?_ r_
   · rfl
   · trivial
theorem zwk {W : World} {X : HP} {vs : List IfH} {dep : Nat} {sz : Nat → Nat} (hdp : dep ≤ 60) (hS : ∀ {W : World} (i : Nat), i < vs.length → IOk Tryz.prog W dep (vs.getD i tyDev.dflt) "Size" [] [X] (fun _ : Unit => .int .i64 (sz i : Int)) (fun _ => True) (fun _ F => X :: F)) {lv : Sl3} (h2 : vs.length = 2) (hz : ∀ i, i < 2 → sz i ≤ 100000) :
    CSpec Tryz.prog W 20 [lv.v] [X,sl tyDev lv.v vs] (fun x:Nat × Sl3 × Sl3 => .iface 125 (ptr x.1 0)) (fun _=>True) (fun x F=>X::blk x.1 128 [x.2.1.v,x.2.2.v]::sl tyDev x.2.1.v vs::sl tyI x.2.2.v [(sz 0:Int),((sz 0 + sz 1:Nat):Int)]::sl tyDev lv.v vs::F) := by
 refine CSpec.of_body Tryz.func20 rfl Tryz.ntmps20 rfl fun F => ?_
 show CJ _ _ _ _ _ _ (_::_::F)
 refine sR<|oA rfl<|nT<|sR<|oM rfl<|oO<|zai (zsm (Reads.sl _ _ _) (by omega)) rfl Tryz.call51 (dC_ del1) rfl fun rv hc2=>oP (zbk rfl (zp5 _ _ _))<|oO<|O_box rfl rfl rfl fun b3=>oA rfl<|nT<|sR<|oA rfl<|nT<|zab<|sR<|oM rfl<|oV (V_len rfl foc2 (Reads.sl _ _ _) Tryz.runUnderlying52)<|oM rfl<|nT<|zao<|zbs (fun h hh=>zch (t:=tyI) h hh)<|za8 (X:=Nat × Sl3) [4,6,13,14,15,16,17,18,19,20,21,22,23,24,25,26,27,28,29,30,31] (fun ⟨i,ev⟩  => ([(13,.int .i64 (i:Nat)),(4,.int .i64 ((suN sz i:Nat):Int))]:Slots)) (fun ⟨i,ev⟩ R=>blk b3 128 [rv.v,ev.v]::sl tyI ev.v (enL sz i)::R) (fun ⟨i,ev⟩  => i≤vs.length) (fun ⟨i,ev⟩  => vs.length - i) ⟨0,⟨none,0,0⟩⟩ ?_ ?_ (t1_ r_) ?_
 · exact Nat.zero_le _
 · exact ⟨rfl,rfl,True.intro⟩
 ·
  rintro ⟨i,ev⟩ hil
  show CJ _ _ _ _ _ (([(13,.int .i64 (i:Nat)),(4,.int .i64 ((suN sz i:Nat):Int))]:Slots) ++ forget _ _) (blk b3 128 [rv.v,ev.v]::sl tyI ev.v (enL sz i)::_)
  have hsl := @z02 sz i
  have hsu := zwh (m:=2) hz i (by omega)
  refine sR<|oP (P_lss rfl rfl)<|nT<|zab ?_
  first | (refine zav rfl (fun hg1 => ?_) (fun hg1 => ?_)) | (refine zaw rfl (fun hg1 => ?_) (fun hg1 => ?_)) | (refine za1 rfl (fun hg1 => ?_) (fun hg1 => ?_))
  ·
   refine kT<|zab<|zao<|sR ?_
   have hi:i < vs.length := by omega
   first | (refine RJ_op rfl (OJ_V (zam rfl rfl rfl (by omega) foc3 (Reads.sl _ _ _) Tryz.runUnderlying52 Tryz.sizeOf38) rfl ?_)) | (refine RJ_op rfl (OJ_V (zam rfl rfl (Int.toNat_of_nonneg (by omega)).symm (by omega) foc3 (Reads.sl _ _ _) Tryz.runUnderlying52 Tryz.sizeOf38) rfl ?_))
   refine oV (za6 rfl rfl (by omega) foc3 (Reads.sl _ _ _) rfl rfl Tryz.isAgg38)<|oA rfl<|nT<|sR<|oM rfl<|oM rfl<|oO<|zbz rfl (IOk.call (hS i hi) (Nat.le_trans hdp (by decide))) rfl (dC_ del4) rfl fun o4 ho5 => ?_
   have hzi := hz i (by omega)
   refine oP (P_add rfl rfl (by omega))<|oA rfl<|nT<|zag<|oM rfl<|oM rfl<|oP (zad rfl)<|oP (zaa rfl ⟨_,_,_,Tryz.runUnderlying128,rfl,rfl,Tryz.sizeOf22,rfl⟩)<|oV (zac rfl foc1 rfl Tryz.isAgg22)<|oM rfl<|oO<|za4 rfl (zp6 _) rfl fun b6=>oO<|zb1 (t:=tyI) (bytes:=8) rfl rfl del3 foc0 (Reads.lit (t:=tyI) (ys:=[((suN sz i:Nat):Int) + (sz i:Int)]) rfl rfl (by decide) (by decide) rfl) Tryz.underlying22 zr1 (by show (enL sz i).length + 1≤maxLen; rw [hsl]; unfold maxLen; omega) (by show ((enL sz i).length + 1) * 8≤_; rw [hsl]; omega) rfl fun p7 c8=>oP (zad rfl)<|oP (zaa rfl ⟨_,_,_,Tryz.runUnderlying128,rfl,rfl,Tryz.sizeOf22,rfl⟩)<|oO<|za5 rfl rfl foc3 rfl rfl Tryz.sizeOf22<|za0<|zah<|zar<|zag<|oP (P_add rfl rfl (by omega))<|oM rfl<|za0<|zba ⟨i + 1,⟨p7,(enL sz i ++ [((suN sz i:Nat):Int) + (sz i:Int)]).length,c8⟩⟩ (by first | omega | (simp only []; omega)) ?_ kP_ ?_ (t3_ (Ent.takeC del0 (by rw [zye]) (t2_ (t2_ (t1_ (e_ r_))))))
   · show i + 1≤vs.length; omega
   · exact ⟨rfl,rfl,True.intro⟩
  ·
   refine zbc<|zay<|zau<|zat<|zar<|sR<|oM rfl<|oP (zdu rfl Tryz.runUnderlying125 (by intro ms h; cases h))<|oA rfl<|nT<|zaf ?_
   obtain rfl:i=2 := by omega
   refine zan (res1 Tryz.results20 rfl)<|CSpec.close (b3,rv,ev) ?_ ?_ (t4_ (t0_ (t1_ (Ent.takeC del0 (by rw [enL_2]) r_))))
   · rfl
   · trivial
section
variable {B:TS→HP} {vs:List IfH} {dep rc wc:Nat} {sz:Nat→Nat}
theorem na_cat {q : Nat} : ∀ n, 100 ≤ n → ∀ w, (nilAhead n 125 (ptr q 0) "Write").run Tryz.prog w = .ok (some false) w := fun n hn w => by
  obtain ⟨m,rfl⟩:∃ m,n=m + 1 := ⟨n - 1,by omega⟩
  kernel_rfl
theorem zyo (hB:BaseOk Tryz.prog B vs.length dep rc wc sz (fun i=>vs.getD i tyDev.dflt)) (h2:vs.length=2) (hdep:dep < 60) {q:Nat} {rv ev:Sl3} (hb:sz 0 + sz 1≤100000) (zk:Bool) :
    NodeC Tryz.prog B (M:=Unit) (fun _=>star [blk q 128 [rv.v,ev.v],sl tyDev rv.v vs,sl tyI ev.v [(sz 0:Int),((sz 0 + sz 1:Nat):Int)]]) ⟨125,ptr q 0⟩ (dep + 1) rc wc (sz 0 + sz 1) zk (fun t _ nw cd=>relM (catL (sz 0)) (catO (sz 0)) (sz 0 + sz 1) t nw cd) (relMD (catL (sz 0)) (catO (sz 0)) (sz 0 + sz 1)) :=
  zoz _ zk na_cat (by omega) hb (L:=2) (fun a ha=>(zip ha).1) (fun a b ha hb h1 h2=>by
      unfold catL at h1
      unfold catO at h2
      split at h1 <;> split at h1 <;> simp_all <;> omega)
    (IOk.conseq (G:=[sl tyDev rv.v vs]) (IOk.of (fun n w=>by kernel_rfl) Tryz.call299 zp7) (fun _=>Ent.take del0 (Ent.take del1 (Ent.take del0 Ent.refl))) (fun _ _=>Ent.take del0 (Ent.take del1 (Ent.take del0 Ent.refl))))
    (fun hd ha hk=>IOk.of (fun n w=>by kernel_rfl) Tryz.call298 (z06 hB hd h2 hb ha hk))
    (fun hd ha hk=>IOk.of (fun n w=>by kernel_rfl) Tryz.call300 (zym hB hd h2 hb ha hk))
    (fun {W t} hd=>IOk.post0 (IOk.of (fun n w=>by kernel_rfl) Tryz.call297 (zyn hB hd (by omega))) (fun _ F=>by rw [h2]; exact Ent.refl))
end
end Go.Proofs
namespace Go.VG
section
variable {P:Program} {n:Env} {W:World} {s:Slots} {H:List HP} {K:Slots→List HP→Prop} {d:Nat} {ty:TypeId} {pos:String} {after:Array Edge} {g:Option (Nat × Bool)}
theorem zhr {f:FuncId} {xs:List Operand} {ats:Array TypeId} {vs:List Value} {pre F:List HP} {res:Bool→Value} {pf:Bool→Prop} {post:Bool→List HP→List HP}
    (hc:CSpec P W f vs pre res pf post) (hv:evs s xs=some vs) (he:zgf P f) (hdel:Dels H pre F) (hd:Nat.blt d n.n=true)
    (h0:pf false→K ((d,res false)::s) (post false F)) (h1:pf true→K ((d,res true)::s) (post true F)) :
    OJ P n W ⟨some d,.call { callee := .value (.func f),args := xs.toArray,argTypes := ats },ty,pos,after,g⟩ s H K :=
  zai hc hv he hdel hd (fun x=>match x with | false=>h0 | true=>h1)
theorem zgm {x:Operand} {name:String} {xs:List Operand} {ats:Array TypeId} {vs:List Value} {v:Value} {pre F:List HP} {res:Bool→Value} {pf:Bool→Prop} {post:Bool→List HP→List HP}
    (hx:ev s x=some v) (hc:ICall P W v name vs pre res pf post) (hv:evs s xs=some vs) (hdel:Dels H pre F) (hd:Nat.blt d n.n=true)
    (h0:pf false→K ((d,res false)::s) (post false F)) (h1:pf true→K ((d,res true)::s) (post true F)):OJ P n W ⟨some d,.call { callee := .invoke x name,args := xs.toArray,argTypes := ats },ty,pos,after,g⟩ s H K :=
  zbz hx hc hv hdel hd (fun x=>match x with | false=>h0 | true=>h1)
theorem CSpec.ofStar3 {f:FuncId} {args:List Value} {A B C:HP} {G:List HP} {X:Type} {res:X→Value} {pf:X→Prop} {A':X→HP} (hm:CSpec P W f args [A,B,C,star G] res pf (fun x F=>A' x::B::C::star G::F)):CSpec P W f args (A::B::C::G) res pf (fun x F=>A' x::B::C::(G ++ F)) :=
  CSpec.conseq (G:=[]) hm (fun _ _ hp=>zas (fun _ h=>zas (fun _ h=>zas (fun _ h=>stars_star.2 h) h) h) hp) (fun _ _ _ hp=>zas (fun _ h=>zas (fun _ h=>zas (fun _ h=>stars_star.1 h) h) h) hp)
theorem CSpec.toStar3 {f:FuncId} {args:List Value} {A B C:HP} {G:List HP} {X:Type} {res:X→Value} {pf:X→Prop} {A':X→HP} (hm:CSpec P W f args (A::B::C::G) res pf (fun x F=>A' x::B::C::(G ++ F))):CSpec P W f args [A,B,C,star G] res pf (fun x F=>A' x::B::C::star G::F) :=
  CSpec.conseq (G:=[]) hm (fun _ _ hp=>zas (fun _ h=>zas (fun _ h=>zas (fun _ h=>stars_star.1 h) h) h) hp) (fun _ _ _ hp=>zas (fun _ h=>zas (fun _ h=>zas (fun _ h=>stars_star.2 h) h) h) hp)
end
end Go.VG
namespace Go.Proofs.Ts
open Go.VG
structure Oth (t t':TS) (c:Nat) (ok:Bool):Prop where
  nw:∀ a,t'.nw 0 a=t.nw 0 a
  cd:∀ a,t'.cd 0 a=t.cd 0 a
  safe:t'.safe=t.safe
  k:t.k - c≤t'.k
  w:t.w≤t'.w
  z:t.z=true→t'.z=true
  dn:t'.dn = !ok
  sf:ok=false→t.safe=false
section
variable {t t' t'':TS} {c c' rc wc a n i:Nat} {ok ok':Bool} {v:UInt64} {nw:Nat→UInt64} {cd:Nat→List UInt64}
theorem Oth.refl (hd:t.dn=false):Oth t t c true := ⟨fun _=>rfl,fun _=>rfl,rfl,Nat.sub_le _ _,Nat.le_refl _,id,hd,fun h=>by cases h⟩
theorem Oth.trans (h:Oth t t' c true) (g:Oth t' t'' c' ok):Oth t t'' (c + c') ok :=
  ⟨fun a=>(g.nw a).trans (h.nw a),fun a=>(g.cd a).trans (h.cd a),g.safe.trans h.safe,by have := h.k; have := g.k; omega,Nat.le_trans h.w g.w,fun z=>g.z (h.z z),g.dn,fun e=>by rw [← h.safe]; exact g.sf e⟩
theorem Oth.mono (h:Oth t t' c ok) (hc:c≤c'):Oth t t' c' ok := ⟨h.nw,h.cd,h.safe,by have := h.k; omega,h.w,h.z,h.dn,h.sf⟩
theorem Oth.rd (hd:t.dn=false) (hs:ok=false→t.safe=false):Oth t (t.rdS rc ok) rc ok := by
  cases ok
  · exact ⟨fun _=>rfl,fun _=>rfl,rfl,Nat.le_refl _,Nat.le_refl _,id,rfl,hs⟩
  · exact ⟨fun _=>rfl,fun _=>rfl,rfl,Nat.le_refl _,Nat.le_refl _,id,hd,hs⟩
theorem zmt (h:i≠0):(∀ b,(t.put i a v).nw 0 b=t.nw 0 b) ∧ ∀ b,(t.put i a v).cd 0 b=t.cd 0 b :=
  ⟨fun b=>if_neg fun x=>h x.1,fun b=>if_neg fun x=>h x.1⟩
theorem Oth.wr (hi:i≠0) (hd:t.dn=false) (hs:ok=false→t.safe=false) (hz:t.z=true→v=0):Oth t (t.wrS wc i a v ok) wc ok := by
  have hzz:t.z=true→(t.put i a v).z=true := fun h=>by
    show (t.z && decide (v=0))=true
    rw [h,decide_eq_true (hz h)]; rfl
  cases ok
  · exact ⟨(zmt hi).1,(zmt hi).2,rfl,Nat.le_refl _,Nat.le_refl _,hzz,rfl,hs⟩
  · exact ⟨(zmt hi).1,(zmt hi).2,rfl,Nat.le_refl _,Nat.le_succ _,hzz,hd,hs⟩
theorem Oth.fl (hi:i≠0) (hd:t.dn=false):Oth t (t.fls i) 0 true :=
  ⟨fun _=>rfl,fun b=>if_neg fun x=>hi x,rfl,Nat.le_refl _,Nat.le_refl _,id,hd,fun h=>by cases h⟩
theorem Oth.par (h:Oth t t' c ok):Par t t' c := ⟨h.safe,h.k⟩
theorem Oth.rel (h:Oth t t' c ok) (g:relM (fun _=>0) id n t nw cd):relM (fun _=>0) id n t' nw cd :=
  g.same (fun a _=>h.nw a) (fun a _ x hx=>by have e:cand t' 0 (id a)=cand t 0 (id a) := h.cd _; rw [e] at hx; exact hx)
def mW (t:TS) (wc a:Nat) (v:UInt64):Nat→TS
  | 0=>t
  | i + 1=>((mW t wc a v i).put i a v).use wc
theorem mW_dn (hd:t.dn=false):∀ i,(mW t wc a v i).dn=false
  | 0=>hd
  | i + 1=>mW_dn hd i
theorem zmu:∀ i,(mW t wc a v i).safe=t.safe
  | 0=>rfl
  | i + 1=>zmu i
theorem mW_k:∀ i,(mW t wc a v i).k=t.k - i * wc
  | 0=>by show t.k=_; omega
  | i + 1=>by
    show (mW t wc a v i).k - wc=_
    rw [mW_k i,Nat.add_mul]; omega
theorem mW_w:∀ i,(mW t wc a v i).w=t.w + i
  | 0=>rfl
  | i + 1=>congrArg (· + 1) (mW_w i)
theorem mW_z (hz:t.z=true) (hv:v=0):∀ i,(mW t wc a v i).z=true
  | 0=>hz
  | i + 1=>by
    show ((mW t wc a v i).z && decide (v=0))=true
    rw [mW_z hz hv i,decide_eq_true hv]; rfl
def mD (t:TS) (wc a:Nat) (v:UInt64) (t':TS):Prop := t.safe=false ∧ ∃ i,i < 2∧t' = (mW t wc a v i).wrS wc i a v false
theorem mW_rel (h:relM (fun _=>0) id n t nw cd) (ha:a < n):relM (fun _=>0) id n (mW t wc a v 2) (nput nw a v) (cput cd a v) := by
  have h1:relM (fun _=>0) id n (t.put 0 a v) (nput nw a v) (cput cd a v) := relM.put (lg:=fun _=>0) (off:=id) (fun x y _ _ _ e=>e) h ha
  have h2:relM (fun _=>0) id n ((t.put 0 a v).use wc) (nput nw a v) (cput cd a v) := h1.ext rfl rfl
  have h3:relM (fun _=>0) id n (((t.put 0 a v).use wc).put 1 a v) (nput nw a v) (cput cd a v) := relM.oth (fun x _ e=>by cases e.1) h2
  exact h3.ext rfl rfl
theorem mD_rel (h:relM (fun _=>0) id n t nw cd) (ha:a < n) (hd:mD t wc a v t'):relMD (fun _=>0) id n t' (cput cd a v) := by
  obtain ⟨-,i,hi,rfl⟩ := hd
  have h1:relM (fun _=>0) id n (t.put 0 a v) (nput nw a v) (cput cd a v) := relM.put (lg:=fun _=>0) (off:=id) (fun x y _ _ _ e=>e) h ha
  have hh:i=0∨i=1 := by omega
  rcases hh with rfl | rfl
  · exact (h1.ext (t' := (mW t wc a v 0).wrS wc 0 a v false) rfl rfl).ud
  · have h2:relM (fun _=>0) id n ((t.put 0 a v).use wc) (nput nw a v) (cput cd a v) := h1.ext rfl rfl
    have h3:relM (fun _=>0) id n (((t.put 0 a v).use wc).put 1 a v) (nput nw a v) (cput cd a v) := relM.oth (fun x _ e=>by cases e.1) h2
    exact (h3.ext (t' := (mW t wc a v 1).wrS wc 1 a v false) rfl rfl).ud
theorem mD_dn (hd:mD t wc a v t'):t'.dn=true := by
  obtain ⟨-,i,hi,rfl⟩ := hd; rfl
theorem mD_par (hd:mD t wc a v t'):Par t t' (2 * wc) := by
  obtain ⟨-,i,hi,rfl⟩ := hd
  have h1:((mW t wc a v i).wrS wc i a v false).k=(mW t wc a v i).k - wc := rfl
  have h2:((mW t wc a v i).wrS wc i a v false).safe=(mW t wc a v i).safe := rfl
  refine ⟨h2.trans (zmu i),?_⟩
  rw [h1,mW_k]
  have:i * wc≤1 * wc := Nat.mul_le_mul_right _ (by omega)
  omega
theorem mD_z (hd:mD t wc a v t') (hz:t.z=true) (hv:v=0):t'.z=true := by
  obtain ⟨-,i,hi,rfl⟩ := hd
  exact wrS_z (mW_z hz hv i) hv
end
end Go.Proofs.Ts
