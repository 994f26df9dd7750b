/- MapperCalls, part 5 of the proof: PMapU, CMap10, CMap11, PMapD2, CMap12, PMapB, CMap13, PMapL, CMap14, PMapA, CMap15, PMapR, CMap16, PMapZ. -/
import Derived.WalkKit
import Derived.Orders
import Derived.RangeFuncLeaves
import Derived.RangeFuncCalls
import Derived.TacticsIn
import Derived.Handy
import Derived.OrdersHeld
import Derived.OrdersIn
import Derived.Below
import Derived.OpenShut
import Derived.Deep.Slices
import Derived.Scope
import Derived.RangeFuncRecord
import Derived.ChangeKeysEq
import Derived.Laws.BytesArg
import Derived.KernelRfl
import Derived.Maps.RangeRun
import Derived.LaidEql
import Derived.ProofKit
import Derived.ShutString
import Derived.ChangeOld
import Derived.Test.YtbmipeiphoghcaaGreatChecked
import Derived.Test.YtbmipeiphoghcaaGreatRows
import Derived.Test.YtbmipeiphoghcaaGreatZMapperCalls4
namespace Go.Proofs
namespace Md
def isDx (m:Md) (k:Nat):Prop := k < m.dv.length∧(m.at k).gone=false∧(m.at k).isB=false
theorem at_of {m m':Md} {k i:Nat} {d':Dv} (hk:k < m.dv.length) (hd:m'.dv=m.dv.set k d'):m'.at i=if i=k then d' else m.at i := by
  have e:m'.at i=(m.set k d').at i := by unfold Md.at; rw [hd]; rfl
  rw [e]; exact at_set hk
theorem keys_of {m m':Md} {k:Nat} {d':Dv} (hd:m'.dv=m.dv.set k d') (hkey:key d' = key (m.at k)):m'.dv.map key=m.dv.map key := by rw [hd]; exact set_key hkey
theorem zka {m m':Md} {k:Nat} {d':Dv} {rk:Nat→Nat} (hk:k < m.dv.length) (hd:m'.dv=m.dv.set k d') (hkey:key d' = key (m.at k)) (hsub:∀ t ∈ tbl d',t ∈ tbl (m.at k)) (h:m.Rank rk):m'.Rank rk := by
  intro i hi hg t ht j hj
  rw [find_key (keys_of hd hkey)] at hj
  rw [at_of hk hd] at hg ht
  have hl:m'.dv.length=m.dv.length := by rw [hd]; simp
  by_cases e:i=k
  · subst e; rw [if_pos rfl] at hg ht
    exact h i hk ((Prod.mk.inj hkey).1 ▸ hg) t (hsub t ht) j hj
  · rw [if_neg e] at hg ht
    exact h i (by omega) hg t ht j hj
end Md
open Md in
theorem MdOk.set {m m':Md} {k:Nat} {d':Dv} (hO:MdOk m) (hk:m.isDx k) (hd:m'.dv=m.dv.set k d') (hkey:key d' = key (m.at k)) (hB:d'.isB=false) (hc:Go.Proofs.chk d'.live=0∧Go.Proofs.chk d'.new=0)
    (hnam:∀ t ∈ tbl d',t.On≠noN→(m.find t.On).isSome) (hacy:∃ rk,m'.Rank rk) (hhl:d'.hl=false→d'.live=[]) (hhn:d'.hn=false→d'.new=[])
    (hw:∀ w ∈ d'.wait,w.gv < m.dv.length∧(m.at w.gv).gone=false∧(m.at w.gv).isB=false∧1≤w.t.Kind∧w.t.Kind≤3∧inT w.t):MdOk m' := by
  obtain ⟨hk1,hk2,hk3⟩ := hk
  have hat := fun i=>at_of (i:=i) hk1 hd
  have hg':d'.gone=(m.at k).gone := (Prod.mk.inj hkey).1
  have hn':d'.name=(m.at k).name := (Prod.mk.inj hkey).2
  have hgo:∀ i,(m'.at i).gone=(m.at i).gone := fun i=>by
    rw [hat]
    split
    · rename_i e
      rw [e]; exact hg'
    · rfl
  have hna:∀ i,(m'.at i).name=(m.at i).name := fun i=>by
    rw [hat]
    split
    · rename_i e
      rw [e]; exact hn'
    · rfl
  have hiB:∀ i,(m'.at i).isB=(m.at i).isB := fun i=>by
    rw [hat]
    split
    · rename_i e
      rw [e,hB,hk3]
    · rfl
  have hl:m'.dv.length=m.dv.length := by rw [hd]; simp
  have hf:∀ n,m'.find n=m.find n := fun n=>find_key (keys_of hd hkey)
  refine ⟨fun i j => ?_,fun i => ?_,fun i => ?_,fun i hi hg t ht hne => ?_,hacy,fun i hi => ?_,fun i => ?_,fun i => ?_,fun i hi w hw' => ?_⟩
  · rw [hl,hgo,hgo,hna,hna]; exact hO.uniq i j
  · rw [hl,hgo,hna]; exact hO.nm i
  · rw [hat]; split
    · exact hc
    · exact hO.chk i
  · rw [hf]
    rw [hl] at hi; rw [hgo] at hg
    rw [hat] at ht
    split at ht
    · exact hnam t ht hne
    · exact hO.nam i hi hg t ht hne
  · rw [hiB] at hi
    have e:i≠k := fun e=>by rw [e,hk3] at hi; cases hi
    rw [hat,if_neg e]; exact hO.bas i hi
  · rw [hat]; split
    · exact hhl
    · exact hO.hl i
  · rw [hat]; split
    · exact hhn
    · exact hO.hn i
  · rw [hl] at hi; rw [hgo,hl,hgo,hiB]
    rw [hat] at hw'
    split at hw'
    · rename_i e; subst e; exact ⟨hk2,hw w hw'⟩
    · exact hO.org i hi w hw'
theorem MdBig.set {m m':Md} {k:Nat} {d':Dv} (h:MdBig m) (hk:k < m.dv.length) (hd:m'.dv=m.dv.set k d') (hw:d'.wait.length≤100000) (ht:m'.tks≤100000) (hto:m'.told.length≤100000000) (hwr:m'.wr≤100000000):MdBig m' :=
  ⟨by rw [hd,List.length_set]; exact h.len,fun i=>by
    rw [Md.at_of hk hd]
    split
    · exact hw
    · exact h.wl i,ht,hto,hwr⟩
theorem MdBd.set {m m':Md} {k:Nat} {d':Dv} (h:MdBd m) (hk:k < m.dv.length) (hd:m'.dv=m.dv.set k d') (hw:d'.wait.length + m.tks≤(m.at k).wait.length + m'.tks) (ht:m'.tks≤m'.cl) (hto:m'.told.length≤4000 * m'.cl) (hwr:m'.wr≤4000 * m'.cl) (hcl:m.cl≤m'.cl) (hc:m'.cl≤4000):MdBd m' :=
  ⟨by
    have h1 := zis m.dv k d' hk
    have h2 := h.wl
    unfold Md.wsum at h2 ⊢
    rw [hd]
    have e:(m.dv.getD k Dv.z).wait.length=(m.at k).wait.length := rfl
    omega,ht,hto,hwr,by rw [hd,List.length_set]; exact Nat.le_trans h.len (by omega),hc⟩
namespace Md
def tick (m:Md):Md := { m with cl := m.cl + 1 }
theorem tick_ok {m:Md} (h:MdOk m):MdOk m.tick := ⟨h.uniq,h.nm,h.chk,h.nam,h.acy,h.bas,h.hl,h.hn,h.org⟩
theorem tick_big {m:Md} (h:MdBig m):MdBig m.tick := ⟨h.len,h.wl,h.tks,h.told,h.wr⟩
theorem zdj {m:Md} (h:MdBd m) (hc:m.cl < 4000):MdBd m.tick := by
  have h1 := h.tks; have h2 := h.told; have h3 := h.wr; have h4 := h.len
  exact ⟨h.wl,Nat.le_succ_of_le h1,Nat.le_trans h2 (by show _≤4000 * (m.cl + 1); omega),Nat.le_trans h3 (by show _≤4000 * (m.cl + 1); omega),by show _≤m.cl + 1 + 2; have:m.tick.dv.length=m.dv.length := rfl; omega,hc⟩
section
variable {m:Md} {k:Nat}
theorem ok_susp (hO:MdOk m) (hk:m.isDx k) {b:Bool} : MdOk (m.set k { m.at k with susp := b }) := by
  obtain ⟨rk,hr⟩ := hO.acy
  exact hO.set hk rfl rfl hk.2.2 (hO.chk k) (fun t ht hne=>hO.nam k hk.1 hk.2.1 t ht hne) ⟨rk,zka hk.1 (d' := { m.at k with susp := b }) rfl rfl (fun t ht=>ht) hr⟩ (hO.hl k) (hO.hn k) (fun w hw=>(hO.org k hk.1 w hw).2)
theorem ok_unload (hO:MdOk m) (hk:m.isDx k):MdOk (m.set k { m.at k with new := [],hn := false }) := by
  obtain ⟨rk,hr⟩ := hO.acy
  have hs:∀ t ∈ tbl { m.at k with new := [],hn := false },t ∈ tbl (m.at k) := fun t ht=>by
    have:t ∈ (m.at k).live := by simpa [tbl] using ht
    exact List.mem_append.2 (.inl this)
  exact hO.set hk rfl rfl hk.2.2 ⟨(hO.chk k).1,by rfl⟩ (fun t ht hne=>hO.nam k hk.1 hk.2.1 t (hs t ht) hne) ⟨rk,zka hk.1 (d' := { m.at k with new := [],hn := false }) rfl rfl hs hr⟩ (hO.hl k) (fun _=>rfl) (fun w hw=>(hO.org k hk.1 w hw).2)
theorem ok_addW (hO:MdOk m) (hk:m.isDx k) {w:Wt} {n:Nat} (hw:w.gv < m.dv.length∧(m.at w.gv).gone=false∧(m.at w.gv).isB=false∧1≤w.t.Kind∧w.t.Kind≤3∧inT w.t):MdOk { m.set k { m.at k with wait := (m.at k).wait ++ [w] } with tks := n } := by
  obtain ⟨rk,hr⟩ := hO.acy
  refine hO.set (d' := { m.at k with wait := (m.at k).wait ++ [w] }) hk rfl rfl hk.2.2 (hO.chk k) (fun t ht hne=>hO.nam k hk.1 hk.2.1 t ht hne) ⟨rk,zka hk.1 (d' := { m.at k with wait := (m.at k).wait ++ [w] }) rfl rfl (fun t ht=>ht) hr⟩ (hO.hl k) (hO.hn k) (fun x hx => ?_)
  rcases List.mem_append.1 hx with h | h
  · exact (hO.org k hk.1 x h).2
  · rw [List.mem_singleton] at h; subst h; exact hw
end
end Md
end Go.Proofs
set_option linter.unusedSimpArgs false
set_option maxRecDepth 20000
namespace Go.Proofs
open Go.VG
theorem zn2:zbt Tryz.prog 59 0 [] 9 [] := fun w=>by kernel_rfl
theorem zn3:zbt Tryz.prog 30 0 [] 37 [] := fun w=>by kernel_rfl
theorem MapWF.tick {c:MH} {m:Md} (h:MapWF c m):MapWF c m.tick := ⟨h.dv,Md.tick_ok h.ok,Md.tick_big h.big,h.dl,h.bl,h.inj,h.good,h.dsk,h.dsj,h.wr⟩
theorem zpl {c:MH} {m:Md} {R:List HP} : Ent (MapR c m::R) (MapR c m.tick::R) := fun h hh=>by
  obtain ⟨h1,h2⟩ := stars_pur.1 (stars_star.1 hh)
  exact stars_star.2 (stars_pur.2 ⟨h1.tick,h2⟩)
section
variable {X:HP} {c:MH} {m m':Md} {k:Nat} {h':DH} {d':Dv} {R:List HP}
def MH.put (c:MH) (k:Nat) (h':DH) (d':Dv):MH := { c with l := c.l.set k (h',d') }
theorem put_wf (hW:MapWF c m) (hk:m.isD k) (hkey:Md.key d' = Md.key (m.at k)) (hB:d'.isB=false) (hb:h'.b=c.bs k) (hdn:h'.dn=(c.hd k).dn) (hd:m'.dv=m.dv.set k d') (ok:MdOk m') (big:MdBig m') (hwr:m'.wr=m.wr):MapWF (c.put k h' d') m' :=
  hW.upd hk.1 hd hkey (hB.trans hk.2.2.symm) hb hdn ok big hW.good rfl (fun i hi=>by
    obtain ⟨_,q2,q3⟩ := hW.dsk i hi
    have e:i≠k := fun e=>by have h1 := hi.2.2; rw [e,hk.2.2] at h1; cases h1
    rw [Md.at_of hk.1 hd,if_neg e]; exact ⟨q2,q3⟩) (by rw [hwr]; exact hW.wr)
theorem zeo (hW:MapWF c m) (hk:m.isD k) (hkey:Md.key d' = Md.key (m.at k)) (hB:d'.isB=false) (hb:h'.b=c.bs k) (hdn:h'.dn=(c.hd k).dn) (hd:m'.dv=m.dv.set k d') (ok:MdOk m') (big:MdBig m') (hwr:m'.wr=m.wr) (ht:m'.told=m.told) :
    Ent (blk (c.bs k) 111 (zdy h' d')::sl tyapi_Target h'.lv.v d'.live::sl tyapi_Target h'.nw.v d'.new::sl tyErr h'.wt.v (d'.wait.map (wC c.bs))::MRest X c m k::R) (MapRG X (c.put k h' d') m' :: R) := by
  obtain ⟨g1,g2⟩ := hW.at hk.1
  have h := zxc (X:=X) (R:=R) (c:=c) (m:=m) (k:=k) (c' := c.put k h' d') (m' := m') (h' := h') (d' := d') g1 ((Prod.mk.inj hkey).1.trans hk.2.1) hB rfl (Md.names_key (Md.keys_of hd hkey)) ht (zgz g1 hb rfl) (put_wf hW hk hkey hB hb hdn hd ok big hwr)
  rwa [hb] at h
theorem zn4 (hW:MapWF c m) (hk:m.isD k) (hb:h'.b=c.bs k):(c.put k h' d').bs=c.bs := zgz (hW.at hk.1).1 hb rfl
theorem zhr:Ent (MapR c m::R) (sl tyapi_Answer c.tv.v m.told::MapR { c with tv := s3z } { m with told := [] } :: R) := fun h hh=>by
  obtain ⟨hw,h1⟩ := stars_pur.1 (stars_star.1 hh)
  have hw2:MapWF { c with tv := s3z } { m with told := [] } := ⟨hw.dv,⟨hw.ok.uniq,hw.ok.nm,hw.ok.chk,hw.ok.nam,hw.ok.acy,hw.ok.bas,hw.ok.hl,hw.ok.hn,hw.ok.org⟩,⟨hw.big.len,hw.big.wl,hw.big.tks,Nat.zero_le _,hw.big.wr⟩,hw.dl,hw.bl,hw.inj,hw.good,hw.dsk,hw.dsj,hw.wr⟩
  have h2 := zbn (List.perm_middle (l₁:=[mpc mBas c.bm c.bl,mpc mDev c.dm c.dl,sl tyS c.ov.v m.names]) (a:=sl tyapi_Answer c.tv.v m.told) (l₂:=[Go.VG.Own (DevC c.a c.bs) c.l,Arr c.a c.s] ++ R)) _ h1
  obtain ⟨a1,a2,d1,e1,p1,q1⟩ := h2
  refine ⟨a1,a2,d1,e1,p1,stars_star.2 (stars_pur.2 ⟨hw2,?_⟩)⟩
  have q2:stars (sl tyapi_Answer (Sl3.v s3z) []::([mpc mBas c.bm c.bl,mpc mDev c.dm c.dl,sl tyS c.ov.v m.names] ++ ([Go.VG.Own (DevC c.a c.bs) c.l,Arr c.a c.s] ++ R))) a2 := zb2 (t:=tyapi_Answer) _ q1
  exact zbn (List.perm_middle (l₁:=[mpc mBas c.bm c.bl,mpc mDev c.dm c.dl,sl tyS c.ov.v m.names]) (a:=sl tyapi_Answer (Sl3.v s3z) [])).symm _ q2
theorem zi7 {tv:Sl3} {l:List api_Answer} (hl:l.length≤100000000):Ent (sl tyapi_Answer tv.v l::MapR c m::R) (MapR { c with tv := tv } { m with told := l } :: R) := fun h hh=>by
  obtain ⟨a1,a2,d1,e1,p1,q1⟩ := hh
  obtain ⟨hw,h1⟩ := stars_pur.1 (stars_star.1 q1)
  have hw2:MapWF { c with tv := tv } { m with told := l } := ⟨hw.dv,⟨hw.ok.uniq,hw.ok.nm,hw.ok.chk,hw.ok.nam,hw.ok.acy,hw.ok.bas,hw.ok.hl,hw.ok.hn,hw.ok.org⟩,⟨hw.big.len,hw.big.wl,hw.big.tks,hl,hw.big.wr⟩,hw.dl,hw.bl,hw.inj,hw.good,hw.dsk,hw.dsj,hw.wr⟩
  have h2 := zbn (List.perm_middle (l₁:=[mpc mBas c.bm c.bl,mpc mDev c.dm c.dl,sl tyS c.ov.v m.names]) (a:=sl tyapi_Answer c.tv.v m.told) (l₂:=[Go.VG.Own (DevC c.a c.bs) c.l,Arr c.a c.s] ++ R)) _ h1
  have h3:stars (sl tyapi_Answer tv.v l::([mpc mBas c.bm c.bl,mpc mDev c.dm c.dl,sl tyS c.ov.v m.names] ++ ([Go.VG.Own (DevC c.a c.bs) c.l,Arr c.a c.s] ++ R))) h := ⟨a1,a2,d1,e1,p1,zex h2⟩
  exact stars_star.2 (stars_pur.2 ⟨hw2,zbn (List.perm_middle (l₁:=[mpc mBas c.bm c.bl,mpc mDev c.dm c.dl,sl tyS c.ov.v m.names]) (a:=sl tyapi_Answer tv.v l)).symm _ h3⟩)
end
theorem zq6 {W:World} {A:HP} {v:Sl3} {xs:List ByteArray} (hA:Reads A tyS v.v xs) (hl:xs.length≤100000000) :
    CSpec Tryz.prog W 89 [v.v] [A] (fun x:Sl3=>x.v) (fun _=>True) (fun x F=>sl tyS x.v xs::A::F) := by
 refine CSpec.of_body Tryz.func89 rfl Tryz.ntmps89 rfl fun F => ?_
 show CJ _ _ _ _ _ _ (_::F)
 refine sR <| oA rfl rfl <| nT <| zad <| sR <| oM rfl rfl <| oP (zr9 rfl rfl Tryz.underlying59) rfl <| nT ?_
 first | (refine zao rfl (fun hg1 => ?_) (fun hg1 => ?_)) | (refine zap rfl (fun hg1 => ?_) (fun hg1 => ?_)) | (refine zar rfl (fun hg1 => ?_) (fun hg1 => ?_))
 ·
  refine sR <| oA rfl rfl <| nT <| zaj <| zae <| zan (res1 Tryz.results89 rfl) ?_
  obtain ⟨vp,vn,vc⟩ := v
  obtain rfl:vp=none := by simpa using hg1
  refine fun w hs => ?_
  obtain rfl := znq hA _ hs.heap.choose_spec
  revert w hs
  show ∀ w,St W w _→_
  refine CSpec.close ⟨none,0,0⟩ ?_ ?_ (Ent.trans (fun h hh=>zb2 (t:=tyS) h hh) eR)
  · rfl
  · trivial
 ·
  refine kT <| sR <| oO <| za7 rfl (zn2) rfl fun b1=>zcl (Ent.trans (t0_ eR) (zcd (t:=tyS) (m:=0) [] rfl rfl rfl (by decide))) <| oM rfl rfl <| oO <| zbv (t:=tyS) (bytes:=16) rfl rfl del0 foc0 hA Tryz.underlying59 zjj (by simp only [List.length_append,List.length_cons,List.length_nil,maxLen] at *; omega) (by simp only [List.length_append,List.length_cons,List.length_nil,maxLen] at *; omega) rfl fun p2 c3=>oA rfl rfl <| nT <| zaj <| zan (res1 Tryz.results89 rfl) <| CSpec.close ⟨p2,_,c3⟩ ?_ ?_ (t0_ (t0_ eR))
  · rfl
  · trivial
theorem zm5 {W:World} {A:HP} {v:Sl3} {xs:List api_Target} (hA:Reads A tyapi_Target v.v xs) (hl:xs.length≤100000000) :
    CSpec Tryz.prog W 74 [v.v] [A] (fun x:Sl3=>x.v) (fun _=>True) (fun x F=>sl tyapi_Target x.v xs::A::F) := by
 refine CSpec.of_body Tryz.func74 rfl Tryz.ntmps74 rfl fun F => ?_
 show CJ _ _ _ _ _ _ (_::F)
 refine sR <| oA rfl rfl <| nT <| zad <| sR <| oM rfl rfl <| oP (zr9 rfl rfl Tryz.underlying30) rfl <| nT ?_
 first | (refine zao rfl (fun hg1 => ?_) (fun hg1 => ?_)) | (refine zap rfl (fun hg1 => ?_) (fun hg1 => ?_)) | (refine zar rfl (fun hg1 => ?_) (fun hg1 => ?_))
 ·
  refine sR <| oA rfl rfl <| nT <| zaj <| zae <| zan (res1 Tryz.results74 rfl) ?_
  obtain ⟨vp,vn,vc⟩ := v
  obtain rfl:vp=none := by simpa using hg1
  refine fun w hs => ?_
  obtain rfl := znq hA _ hs.heap.choose_spec
  revert w hs
  show ∀ w,St W w _→_
  refine CSpec.close ⟨none,0,0⟩ ?_ ?_ (Ent.trans (fun h hh=>zb2 (t:=tyapi_Target) h hh) eR)
  · rfl
  · trivial
 ·
  refine kT <| sR <| oO <| za7 rfl (zn3) rfl fun b1=>zcl (Ent.trans (t0_ eR) (zcd (t:=tyapi_Target) (m:=0) [] rfl rfl rfl (by decide))) <| oM rfl rfl <| oO <| zbv (t:=tyapi_Target) (bytes:=48) rfl rfl del0 foc0 hA Tryz.underlying30 zcf (by simp only [List.length_append,List.length_cons,List.length_nil,maxLen] at *; omega) (by simp only [List.length_append,List.length_cons,List.length_nil,maxLen] at *; omega) rfl fun p2 c3=>oA rfl rfl <| nT <| zaj <| zan (res1 Tryz.results74 rfl) <| CSpec.close ⟨p2,_,c3⟩ ?_ ?_ (t0_ (t0_ eR))
  · rfl
  · trivial
theorem zy1 {W:World} {b:Nat} {c:MH} {m:Md} :
    CSpec Tryz.prog W 42 [ptr b 0] [blk b 84 (za3 c m),MapR c m] (fun x:Sl3=>x.v) (fun _=>True) (fun x F=>sl tyS x.v m.names::blk b 84 (za3 c m)::MapR c m::F) := by
 refine CSpec.of_body Tryz.func42 rfl Tryz.ntmps42 rfl fun F => ?_
 show CJ _ _ _ _ _ _ (_::_::F)
 refine zba (zb4 foc1) fun hW => ?_
 have hO := hW.ok
 have hns := Md.names_len (m:=m)
 have hln := hW.big.len
 refine sR <| oA rfl rfl <| nT <| sR <| oM rfl rfl <| oP (zaf rfl) rfl <| oP (zaa rfl ⟨_,_,_,Tryz.runUnderlying84,rfl,rfl,Tryz.sizeOf59,rfl⟩) rfl <| oV (zag rfl foc0 rfl Tryz.isAgg59) rfl <| oO <| zaq (zq6 rdOrd (by first | assumption | omega)) rfl Tryz.call89 (Dels.cons del1 Dels.nil) rfl fun cx1 hc3=>oA rfl rfl <| nT <| zaj <| zan (res1 Tryz.results42 rfl) <| CSpec.close cx1 ?_ ?_ (t0_ (t1_ (t0_ eR)))
 · rfl
 · trivial
theorem zvg {W:World} {b:Nat} {c:MH} {m:Md} :
    CSpec Tryz.prog W 13 [ptr b 0] [blk b 84 (za3 c m),MapR c m] (fun _:Unit=>c.tv.v) (fun _=>True) (fun _ F=>sl tyapi_Answer c.tv.v m.told::blk b 84 (za3 { c with tv := s3z } { m with told := [] })::MapR { c with tv := s3z } { m with told := [] } :: F) := by
 refine CSpec.of_body Tryz.func13 rfl Tryz.ntmps13 rfl fun F => ?_
 show CJ _ _ _ _ _ _ (_::_::F)
 refine zbd (Ent.trans (t1_ eR) zhr) <| sR <| oA rfl rfl <| nT <| sR <| oM rfl rfl <| oP (zaf rfl) rfl <| oP (zaa rfl ⟨_,_,_,Tryz.runUnderlying84,rfl,rfl,Tryz.sizeOf54,rfl⟩) rfl <| oV (zag rfl foc2 rfl Tryz.isAgg54) rfl <| oA rfl rfl <| nT <| sR <| oM rfl rfl <| oP (zaf rfl) rfl <| oP (zaa rfl ⟨_,_,_,Tryz.runUnderlying84,rfl,rfl,Tryz.sizeOf54,rfl⟩) rfl <| oO <| zbh rfl rfl foc2 rfl rfl Tryz.sizeOf54 <| nT <| sR <| oM rfl rfl <| oA rfl rfl <| nT <| zaj <| zan (res1 Tryz.results13 rfl) <| CSpec.close () ?_ ?_ (t0_ (t1_ (t0_ eR)))
 · rfl
 · trivial
theorem zxg {W:World} {b:Nat} {c:MH} {m:Md} {n:ByteArray} :
    CSpec Tryz.prog W 30 [ptr b 0,.string n] [blk b 84 (za3 c m),MapR c m] (fun _:MH => .int .i64 (m.ulE n)) (fun _=>True) (fun c2 F=>blk b 84 (za3 c2 (m.ulS n))::MapR c2 (m.ulS n)::F) := by
 refine CSpec.of_body Tryz.func30 rfl Tryz.ntmps30 rfl fun F => ?_
 show CJ _ _ _ _ _ _ (_::_::F)
 refine zba (zb4 foc1) fun hW => ?_
 have hO := hW.ok
 have hns := Md.names_len (m:=m)
 have hln := hW.big.len
 refine sR <| oA rfl rfl <| nT <| sR <| oM rfl rfl <| oP (zaf rfl) rfl <| oP (zaa rfl ⟨_,_,_,Tryz.runUnderlying84,rfl,rfl,Tryz.sizeOf82,rfl⟩) rfl <| oV (zag rfl foc0 rfl Tryz.isAgg82) rfl <| oM rfl rfl <| oO (zeb rfl rfl foc1 rfl (fun hd2 => ?_) (fun k1 hd2 => ?_))
 ·
  refine oA rfl rfl <| nT <| zad <| zas <| sR <| oM rfl rfl <| oP (zgk rfl rfl Tryz.underlying85) rfl <| oA rfl rfl <| nT <| zbk rfl rfl <| sR <| oA rfl rfl <| nT <| zaj <| zam <| zae <| zan (res1 Tryz.results30 rfl) ?_
  have e1:m.ulE n=12∧m.ulS n=m := by unfold Md.ulE Md.ulS; rw [hd2]; exact ⟨rfl,rfl⟩
  refine CSpec.close c ?_ ?_ (Ent.takeC del0 (by rw [e1.2]) (Ent.takeC del0 (by rw [e1.2]) eR))
  · rw [e1.1]
  · trivial
 ·
  refine oA rfl rfl <| nT <| zad <| zas <| sR <| oM rfl rfl <| oP (zd3 rfl rfl Tryz.underlying85) rfl <| oA rfl rfl <| nT <| zbf rfl rfl <| sR <| oM rfl rfl <| oP (zaf rfl) rfl <| oP (zaa rfl ⟨_,_,_,Tryz.runUnderlying111,rfl,rfl,Tryz.sizeOf4,rfl⟩) rfl <| oV (zby (Ent.trans (t1_ eR) (zbl (Md.dev_is hd2).1)) (zag rfl foc0 rfl Tryz.isAgg4)) rfl <| oP (P_not rfl) rfl <| oA rfl rfl <| nT ?_
  first | (refine zao rfl (fun hg1 => ?_) (fun hg1 => ?_)) | (refine zap rfl (fun hg1 => ?_) (fun hg1 => ?_)) | (refine zar rfl (fun hg1 => ?_) (fun hg1 => ?_))
  ·
   refine sR <| oA rfl rfl <| nT <| zaj <| zam <| zae <| zan (res1 Tryz.results30 rfl) ?_
   have hq:(m.at k1).hn=false := by simp_all
   have e1:m.ulE n=20∧m.ulS n=m := by unfold Md.ulE Md.ulS; rw [hd2]; simp [hq]
   refine CSpec.close c ?_ ?_ (Ent.takeC del0 (by rw [e1.2]) (Ent.takeC del0 (by rw [e1.2]) eR))
   · rw [e1.1]
   · trivial
  ·
   refine za8 <| zak <| zat <| zad ?_
   have hdk := Md.dev_is hd2
   refine zbd (Ent.trans (t1_ eR) (zbl hdk.1)) <| zai <| oM rfl rfl <| oM rfl rfl <| oP (zaf rfl) rfl <| oP (zaa rfl ⟨_,_,_,Tryz.runUnderlying111,rfl,rfl,Tryz.sizeOf30,rfl⟩) rfl <| oO <| zbh rfl rfl foc0 rfl rfl Tryz.sizeOf30 <| oP (zaf rfl) rfl <| oP (zaa rfl ⟨_,_,_,Tryz.runUnderlying111,rfl,rfl,Tryz.sizeOf4,rfl⟩) rfl <| oO <| zbh rfl rfl foc0 rfl rfl Tryz.sizeOf4 <| nT <| sR <| oA rfl rfl <| nT <| zaj <| zan (res1 Tryz.results30 rfl) ?_
   have hq:(m.at k1).hn=true := by simp_all
   have e1:m.ulE n=0∧m.ulS n=m.set k1 { m.at k1 with new := [],hn := false } := by unfold Md.ulE Md.ulS; rw [hd2]; simp [hq]
   rw [e1.2]
   refine CSpec.close (c.put k1 { c.hd k1 with nw := s3z } { m.at k1 with new := [],hn := false }) ?_ ?_ (Ent.trans (fun h hh=>zb2 (t:=tyapi_Target) h hh) (Ent.trans (Ent.trans (t1_ (t1_ (t0_ (t1_ (t1_ eR))))) (zeo (h' := { c.hd k1 with nw := s3z }) (d' := { m.at k1 with new := [],hn := false }) (m' := (m.set k1 { m.at k1 with new := [],hn := false })) hW hdk.1 rfl hdk.1.2.2 rfl rfl rfl (Md.ok_unload hO hdk.1) (hW.big.set hdk.1.1 rfl (hW.big.wl _) hW.big.tks hW.big.told hW.big.wr) rfl rfl)) (t2_ (t0_ (eD eR)))))
   · rw [e1.1]
   · trivial
end Go.Proofs
set_option linter.unusedSimpArgs false
set_option maxRecDepth 20000
namespace Go.Proofs
open Go.VG
theorem zg9 (v0:Bool) (v1:Int) (v2:Int):∀ w,(Instr.build 51 (#[(0,.bool v0),(2,.int .u64 v1),(3,.int .i64 v2)]:Array (Nat × Value))).run Tryz.prog w = .ok (.agg #[.bool v0,.int .i64 0,.int .u64 v1,.int .i64 v2]) w := fun w=>by kernel_rfl
theorem zn5 (v0:Int):∀ w,(Instr.build 33 (#[(0,.int .i64 v0)]:Array (Nat × Value))).run Tryz.prog w = .ok (.agg #[.int .i64 v0,.int .i64 0,.int .u64 0]) w := fun w=>by kernel_rfl
theorem zy2 {W:World} {b:Nat} {c:MH} {m:Md} {nm:ByteArray} {t:api_Task} (hw:m.wr < 100000000) (hb : -9223372036854775808≤t.At∧t.At≤9223372036854775807) (hs:(m.find nm).isSome=true) (hk:1≤t.Kind∧t.Kind≤3) :
    CSpec Tryz.prog W 79 [ptr b 0,.string nm,.agg #[.int .i64 t.Kind,.int .i64 t.At,.int .u64 (t.Value.toNat:Int)]] [blk b 84 (za3 c m),MapR c m] (fun _:MH => .tuple #[.int .u64 ((m.carryN (m.dv.length + 1) nm t).1.1.toNat:Int),.int .i64 (m.carryN (m.dv.length + 1) nm t).1.2]) (fun c2=>za3 c2 (m.carryN (m.dv.length + 1) nm t).2=za3 c m∧c2.bs=c.bs) (fun c2 F=>blk b 84 (za3 c m)::MapR c2 (m.carryN (m.dv.length + 1) nm t).2::F) := by
  by_cases h3:t.Kind=3
  · rw [zq4 h3 hs]; exact zq5 hs h3
  · exact zxf hw hb hs (by omega)
theorem zfz {m:Md} {k:Nat} {t:api_Task} (hO:MdOk m) (hk:k < m.dv.length) (hg:(m.at k).gone=false):m.carryN (m.dv.length + 1) (m.at k).name t=m.carryk k t := Md.carryN_dev (Md.at_find hO hk hg)
def ansN (m:Md) (nm:ByteArray) (t:api_Task):api_Answer := ⟨true,0,(m.carryN (m.dv.length + 1) nm t).1.1,(m.carryN (m.dv.length + 1) nm t).1.2⟩
theorem zge {W:World} {b:Nat} {c:MH} {m:Md} {nm:ByteArray} {t:api_Task} (hw:m.wr < 100000000) (hb : -9223372036854775808≤t.At∧t.At≤9223372036854775807) (hs:(m.find nm).isSome=true) (hk:1≤t.Kind∧t.Kind≤3) :
    CSpec Tryz.prog W 82 [ptr b 0,.string nm,.agg #[.int .i64 t.Kind,.int .i64 t.At,.int .u64 (t.Value.toNat:Int)]] [blk b 84 (za3 c m),MapR c m] (fun _:MH => .agg #[.bool (ansN m nm t).Done,.int .i64 (ansN m nm t).Ticket,.int .u64 ((ansN m nm t).Value.toNat:Int),.int .i64 (ansN m nm t).Error]) (fun c2=>za3 c2 (m.carryN (m.dv.length + 1) nm t).2=za3 c m∧c2.bs=c.bs) (fun c2 F=>blk b 84 (za3 c m)::MapR c2 (m.carryN (m.dv.length + 1) nm t).2::F) := by
 refine CSpec.of_body Tryz.func82 rfl Tryz.ntmps82 rfl fun F => ?_
 show CJ _ _ _ _ _ _ (_::_::F)
 refine sR <| oO <| O_box rfl rfl rfl fun b1=>oO <| zb1 Tryz.zeroValue51 rfl rfl fun b2=>nT <| sR <| oM rfl rfl <| oM rfl rfl <| oV (zbo rfl foc1 Tryz.isAgg33 Tryz.sizeOf33 rfl rfl) rfl <| oO <| zaq ((zy2 (t:=t) hw hb hs hk)) rfl Tryz.call79 (Dels.cons del2 (Dels.cons del2 Dels.nil)) rfl fun c9 h9=>oM rfl rfl <| oP (za1 rfl rfl) rfl <| oP (za1 rfl rfl) rfl <| oA rfl rfl <| oA rfl rfl <| nT <| zad <| sR <| oM rfl rfl <| oP (P_neq rfl rfl) rfl <| nT ?_
 first | (refine zao rfl (fun hg1 => ?_) (fun hg1 => ?_)) | (refine zap rfl (fun hg1 => ?_) (fun hg1 => ?_)) | (refine zar rfl (fun hg1 => ?_) (fun hg1 => ?_))
 ·
  refine zai <| oA rfl rfl <| nT <| sR <| oM rfl rfl <| oM rfl rfl <| oP (zbm rfl (zg9 _ _ _)) rfl <| oO <| zbj rfl rfl foc2 Tryz.sizeOf51 rfl rfl rfl <| nT <| zaj <| zan (resA1 Tryz.results82 (zb8 rfl foc2 Tryz.isAgg51 Tryz.sizeOf51 rfl rfl)) <| CSpec.close c9 ?_ ?_ (t0_ (t0_ (eD (eD eR))))
  · first | rfl | (show Value.agg #[.bool true,.int .i64 0,.int .u64 0,_]=Value.agg #[.bool true,.int .i64 0,.int .u64 _,_]; rw [show (ansN m nm t).Value=0 from zpk (by assumption)]; rfl)
  · exact h9
 ·
  refine kT <| sR <| oM rfl rfl <| oM rfl rfl <| oP (zbm rfl (zg9 _ _ _)) rfl <| oO <| zbj rfl rfl foc2 Tryz.sizeOf51 rfl rfl rfl <| nT <| zaj <| zan (resA1 Tryz.results82 (zb8 rfl foc2 Tryz.isAgg51 Tryz.sizeOf51 rfl rfl)) <| CSpec.close c9 ?_ ?_ (t0_ (t0_ (eD (eD eR))))
  · first | rfl | (show Value.agg #[.bool true,.int .i64 0,.int .u64 0,_]=Value.agg #[.bool true,.int .i64 0,.int .u64 _,_]; rw [show (ansN m nm t).Value=0 from zpk (by assumption)]; rfl)
  · exact h9
theorem zvh {W:World} {b:Nat} {c:MH} {m:Md} {n:ByteArray} :
    CSpec Tryz.prog W 32 [ptr b 0,.string n] [blk b 84 (za3 c m),MapR c m] (fun _:MH => .int .i64 (m.suE n)) (fun _=>True) (fun c2 F=>blk b 84 (za3 c2 (m.suS n))::MapR c2 (m.suS n)::F) := by
 refine CSpec.of_body Tryz.func32 rfl Tryz.ntmps32 rfl fun F => ?_
 show CJ _ _ _ _ _ _ (_::_::F)
 refine zba (zb4 foc1) fun hW => ?_
 have hO := hW.ok
 have hns := Md.names_len (m:=m)
 have hln := hW.big.len
 refine sR <| oA rfl rfl <| nT <| sR <| oM rfl rfl <| oP (zaf rfl) rfl <| oP (zaa rfl ⟨_,_,_,Tryz.runUnderlying84,rfl,rfl,Tryz.sizeOf82,rfl⟩) rfl <| oV (zag rfl foc0 rfl Tryz.isAgg82) rfl <| oM rfl rfl <| oO (zeb rfl rfl foc1 rfl (fun hd2 => ?_) (fun k1 hd2 => ?_))
 ·
  refine oA rfl rfl <| nT <| zad <| zas <| sR <| oM rfl rfl <| oP (zgk rfl rfl Tryz.underlying85) rfl <| oA rfl rfl <| nT <| zbk rfl rfl <| sR <| oA rfl rfl <| nT <| zaj <| zam <| zae <| zan (res1 Tryz.results32 rfl) ?_
  have e1:m.suE n=12∧m.suS n=m := by
    have e2:m.suE n=12 := by unfold Md.suE; rw [hd2]
    exact ⟨e2,by unfold Md.suS; rw [hd2]⟩
  refine CSpec.close c ?_ ?_ (Ent.takeC del0 (by rw [e1.2]) (Ent.takeC del0 (by rw [e1.2]) eR))
  · rw [e1.1]
  · trivial
 ·
  refine oA rfl rfl <| nT <| zad <| zas <| sR <| oM rfl rfl <| oP (zd3 rfl rfl Tryz.underlying85) rfl <| oA rfl rfl <| nT <| zbf rfl rfl <| sR <| oM rfl rfl <| oP (zaf rfl) rfl <| oP (zaa rfl ⟨_,_,_,Tryz.runUnderlying111,rfl,rfl,Tryz.sizeOf4,rfl⟩) rfl <| oV (zby (Ent.trans (t1_ eR) (zbl (Md.dev_is hd2).1)) (zag rfl foc0 rfl Tryz.isAgg4)) rfl <| oA rfl rfl <| nT ?_
  first | (refine zao rfl (fun hg1 => ?_) (fun hg1 => ?_)) | (refine zap rfl (fun hg1 => ?_) (fun hg1 => ?_)) | (refine zar rfl (fun hg1 => ?_) (fun hg1 => ?_))
  ·
   refine sR <| oA rfl rfl <| nT <| zaj <| zam <| zae <| zan (res1 Tryz.results32 rfl) ?_
   have e1:m.suE n=20∧m.suS n=m := by
     have e2:m.suE n=20 := by unfold Md.suE; rw [hd2]; show (if _ then _ else _)=_; exact if_pos (.inl (by assumption))
     exact ⟨e2,by unfold Md.suS; rw [hd2]; show (if m.suE n=0 then _ else _)=_; rw [if_neg (by rw [e2]; decide)]⟩
   refine CSpec.close c ?_ ?_ (Ent.takeC del0 (by rw [e1.2]) (Ent.takeC del0 (by rw [e1.2]) eR))
   · rw [e1.1]
   · trivial
  ·
   refine za8 <| zak <| zat <| zad <| zad ?_
   have hdk := Md.dev_is hd2
   have hsf:(m.at k1).susp=false := by assumption
   refine zai <| oM rfl rfl <| oP (zaf rfl) rfl <| oP (zaa rfl ⟨_,_,_,Tryz.runUnderlying111,rfl,rfl,Tryz.sizeOf4,rfl⟩) rfl <| oV (zby (Ent.trans (t1_ eR) (zbl (Md.dev_is hd2).1)) (zag rfl foc0 rfl Tryz.isAgg4)) rfl <| nT ?_
   first | (refine zao rfl (fun hg2 => ?_) (fun hg2 => ?_)) | (refine zap rfl (fun hg2 => ?_) (fun hg2 => ?_)) | (refine zar rfl (fun hg2 => ?_) (fun hg2 => ?_))
   ·
    refine sR <| oP (zbm rfl (zn5 _)) rfl <| oO <| zb1 Tryz.zeroValue33 rfl rfl fun b3=>oO <| zbj rfl rfl foc0 Tryz.sizeOf33 rfl rfl rfl <| nT <| zad <| sR <| oM rfl rfl <| oM rfl rfl <| oV (zbo rfl foc0 Tryz.isAgg33 Tryz.sizeOf33 rfl rfl) rfl <| oO <| zaq (zlg (t:=⟨3,0,0⟩) (Md.dev_is hd2).1) rfl Tryz.call78 (Dels.cons del1 (Dels.cons del1 Dels.nil)) rfl fun _ hc4=>oP (zjo rfl rfl Tryz.underlying85) rfl <| nT ?_
    first | (refine zao rfl (fun hg3 => ?_) (fun hg3 => ?_)) | (refine zap rfl (fun hg3 => ?_) (fun hg3 => ?_)) | (refine zar rfl (fun hg3 => ?_) (fun hg3 => ?_))
    ·
     refine sR <| oA rfl rfl <| nT <| zaj <| zae <| zae <| zan (res1 Tryz.results32 rfl) ?_
     have e1:m.suE n=20∧m.suS n=m := by
       have e2:m.suE n=20 := by unfold Md.suE; rw [hd2]; show (if _ then _ else _)=_; exact if_pos (.inr (by assumption))
       exact ⟨e2,by unfold Md.suS; rw [hd2]; show (if m.suE n=0 then _ else _)=_; rw [if_neg (by rw [e2]; decide)]⟩
     refine CSpec.close c ?_ ?_ (Ent.takeC del0 (by rw [e1.2]) (Ent.takeC del0 (by rw [e1.2]) (eD eR)))
     · rw [e1.1]
     · trivial
    ·
     refine kT <| zad ?_
     have hst9:(m.wayk k1 ⟨3,0,0⟩).isSome=false := by assumption
     refine zai <| oM rfl rfl <| oM rfl rfl <| oV (zbo rfl foc2 Tryz.isAgg33 Tryz.sizeOf33 rfl rfl) rfl <| oO <| zaq ((zq5 (t:=⟨3,0,0⟩) (by rw [hdk.2]; rfl) rfl)) rfl Tryz.call79 (Dels.cons del0 (Dels.cons del0 Dels.nil)) rfl fun c9 h9=>oM rfl rfl <| oP (za1 rfl rfl) rfl <| oP (za1 rfl rfl) rfl <| oA rfl rfl <| oA rfl rfl <| nT <| sR <| oM rfl rfl <| oP (P_neq rfl rfl) rfl <| nT ?_
     first | (refine zbf rfl (decide_eq_false (by exact fun h=>h rfl)) ?_) | (refine zbf rfl (by exact fun h=>h rfl) ?_)
     refine kT <| zad ?_
     have hw9:m.wayk k1 ⟨3,0,0⟩=none := by simpa using hst9
     refine zba (zb4 foc1) fun hW9=>zbd (Ent.takeC del0 (congrArg (blk b 84) h9.1.symm) (t0_ (t0_ eR))) ?_
     rw [← h9.2]
     refine zbd (Ent.trans (t1_ eR) (zbl hdk.1)) <| zai <| oM rfl rfl <| oP (zaf rfl) rfl <| oP (zaa rfl ⟨_,_,_,Tryz.runUnderlying111,rfl,rfl,Tryz.sizeOf4,rfl⟩) rfl <| oO <| zbh rfl rfl foc0 rfl rfl Tryz.sizeOf4 <| nT <| sR <| oA rfl rfl <| nT <| zaj <| zan (res1 Tryz.results32 rfl) ?_
     have e0:m.wayk k1 ⟨3,0,0⟩=none := by rw [hw9]
     have e2:m.suE n=0 := by unfold Md.suE; rw [hd2]; show (if _ then _ else _)=_; exact if_neg (by rw [hsf,e0]; simp)
     have e1:m.suS n=m.set k1 { m.at k1 with susp := true } := by unfold Md.suS; rw [hd2]; show (if m.suE n=0 then _ else _)=_; rw [if_pos e2]
     rw [e1]
     refine CSpec.close (c9.put k1 (c9.hd k1) { m.at k1 with susp := true }) ?_ ?_ (Ent.trans (Ent.trans (t0_ (t0_ (t0_ (t0_ (t0_ eR))))) (zeo (h' := (c9.hd k1)) (d' := { m.at k1 with susp := true }) (m' := (m.set k1 { m.at k1 with susp := true })) hW9 hdk.1 rfl hdk.1.2.2 rfl rfl rfl (Md.ok_susp hO hdk.1) (hW.big.set hdk.1.1 rfl (hW.big.wl _) hW.big.tks hW.big.told hW.big.wr) rfl rfl)) (t1_ (t0_ (eD eR))))
     · rw [e2]
     · trivial
   ·
    refine kT <| zad ?_
    have hW9 := hW
    have hhl:(m.at k1).hl=false := by assumption
    refine zbd (Ent.trans (t1_ eR) (zbl hdk.1)) <| zai <| oM rfl rfl <| oP (zaf rfl) rfl <| oP (zaa rfl ⟨_,_,_,Tryz.runUnderlying111,rfl,rfl,Tryz.sizeOf4,rfl⟩) rfl <| oO <| zbh rfl rfl foc0 rfl rfl Tryz.sizeOf4 <| nT <| sR <| oA rfl rfl <| nT <| zaj <| zan (res1 Tryz.results32 rfl) ?_
    have e0:m.wayk k1 ⟨3,0,0⟩=none := by unfold Md.wayk; rw [Md.way_flush hdk.1.2.2 hsf rfl,hO.hl _ hhl]; rfl
    have e2:m.suE n=0 := by unfold Md.suE; rw [hd2]; show (if _ then _ else _)=_; exact if_neg (by rw [hsf,e0]; simp)
    have e1:m.suS n=m.set k1 { m.at k1 with susp := true } := by unfold Md.suS; rw [hd2]; show (if m.suE n=0 then _ else _)=_; rw [if_pos e2]
    rw [e1]
    refine CSpec.close (c.put k1 (c.hd k1) { m.at k1 with susp := true }) ?_ ?_ (Ent.trans (Ent.trans (t0_ (t0_ (t0_ (t0_ (t0_ eR))))) (zeo (h' := (c.hd k1)) (d' := { m.at k1 with susp := true }) (m' := (m.set k1 { m.at k1 with susp := true })) hW9 hdk.1 rfl hdk.1.2.2 rfl rfl rfl (Md.ok_susp hO hdk.1) (hW.big.set hdk.1.1 rfl (hW.big.wl _) hW.big.tks hW.big.told hW.big.wr) rfl rfl)) (t1_ (t0_ eR)))
    · rw [e2]
    · trivial
end Go.Proofs
namespace Go.Proofs
namespace Md
section
variable {m:Md} {n:ByteArray} {t:api_Task} {k w:Nat}
theorem do_none (h:m.find n=none):m.doE n t=12∧m.doA n t=ans0∧m.doS n t=m := by
  have e:m.doE n t=12 := by unfold doE; rw [h]
  exact ⟨e,by unfold doA; rw [if_pos (by rw [e]; decide)],by unfold doS; rw [if_pos (by rw [e]; decide)]⟩
theorem do_kind (h:m.find n=some k) (hk:t.Kind < 1∨3 < t.Kind):m.doE n t=17∧m.doA n t=ans0∧m.doS n t=m := by
  have e:m.doE n t=17 := by unfold doE; rw [h]; show (if _ then _ else _)=_; rw [if_pos hk]
  exact ⟨e,by unfold doA; rw [if_pos (by rw [e]; decide)],by unfold doS; rw [if_pos (by rw [e]; decide)]⟩
theorem do_state (h:m.find n=some k) (hk:¬ (t.Kind < 1∨3 < t.Kind)) (hs:(m.at k).isB=false∧(m.at k).hl=false∧(m.at k).susp=false):m.doE n t=20∧m.doA n t=ans0∧m.doS n t=m := by
  have e:m.doE n t=20 := by unfold doE; rw [h]; show (if _ then _ else if _ then _ else _)=_; rw [if_neg hk,if_pos hs]
  exact ⟨e,by unfold doA; rw [if_pos (by rw [e]; decide)],by unfold doS; rw [if_pos (by rw [e]; decide)]⟩
theorem do_wait (h:m.find n=some k) (hk:¬ (t.Kind < 1∨3 < t.Kind)) (hs:¬ ((m.at k).isB=false∧(m.at k).hl=false∧(m.at k).susp=false)) (hw:m.wayk k t=some w) :
    m.doE n t=0∧m.doA n t=⟨false,((m.tks + 1:Nat):Int),0,0⟩∧m.doS n t = { m with tks := m.tks + 1 }.addW w ⟨m.tks + 1,k,t⟩ := by
  have e:m.doE n t=0 := by unfold doE; rw [h]; show (if _ then _ else if _ then _ else _)=_; rw [if_neg hk,if_neg hs]
  refine ⟨e,?_,?_⟩
  · unfold doA; rw [if_neg (by rw [e]; decide),h]; show (match m.wayk k t with | some _=>_ | none=>_)=_; rw [hw]
  · unfold doS; rw [if_neg (by rw [e]; decide),h]; show (match m.wayk k t with | some w=>_ | none=>_)=_; rw [hw]
theorem do_go (h:m.find n=some k) (hk:¬ (t.Kind < 1∨3 < t.Kind)) (hs:¬ ((m.at k).isB=false∧(m.at k).hl=false∧(m.at k).susp=false)) (hw:m.wayk k t=none) :
    m.doE n t=0∧m.doA n t=⟨true,0,(m.carryk k t).1.1,(m.carryk k t).1.2⟩∧m.doS n t=(m.carryk k t).2 := by
  have e:m.doE n t=0 := by unfold doE; rw [h]; show (if _ then _ else if _ then _ else _)=_; rw [if_neg hk,if_neg hs]
  refine ⟨e,?_,?_⟩
  · unfold doA; rw [if_neg (by rw [e]; decide),h]; show (match m.wayk k t with | some _=>_ | none=>_)=_; rw [hw]
  · unfold doS; rw [if_neg (by rw [e]; decide),h]; show (match m.wayk k t with | some w=>_ | none=>_)=_; rw [hw]
end
end Md
end Go.Proofs
set_option linter.unusedSimpArgs false
set_option maxRecDepth 20000
namespace Go.Proofs
open Go.VG
theorem zfb:∀ w,(Instr.build 51 (#[]:Array (Nat × Value))).run Tryz.prog w = .ok (.agg #[.bool false,.int .i64 0,.int .u64 0,.int .i64 0]) w := fun w=>by kernel_rfl
theorem zg0 (v0:Int) (v1:(Option Addr)) (v2:Int) (v3:Int) (v4:Int):∀ w,(Instr.build 135 (#[(0,.int .i64 v0),(1,.pointer v1),(2,.agg #[.int .i64 v2,.int .i64 v3,.int .u64 v4])]:Array (Nat × Value))).run Tryz.prog w = .ok (.agg #[.int .i64 v0,.pointer v1,.int .i64 v2,.int .i64 v3,.int .u64 v4]) w := fun w=>by kernel_rfl
theorem zh2 (v0:Int) (v1:(Option Addr)) (v2:Int) (v3:Int) (v4:Int):zbt Tryz.prog 109 1 [(0,.agg #[.int .i64 v0,.pointer v1,.int .i64 v2,.int .i64 v3,.int .u64 v4])] 135 [.int .i64 v0,.pointer v1,.int .i64 v2,.int .i64 v3,.int .u64 v4] := fun w=>by kernel_rfl
theorem zi8 (v0:Int):∀ w,(Instr.build 51 (#[(1,.int .i64 v0)]:Array (Nat × Value))).run Tryz.prog w = .ok (.agg #[.bool false,.int .i64 v0,.int .u64 0,.int .i64 0]) w := fun w=>by kernel_rfl
theorem zst {m:Md} {n:ByteArray} (h1:m.dev n=none) (h2:(m.find n).isSome=true):∃ k,m.find n=some k∧(m.at k).isB=true := by
  obtain ⟨k,hk⟩ := Option.isSome_iff_exists.1 h2
  refine ⟨k,hk,?_⟩
  unfold Md.dev at h1
  rw [hk] at h1
  cases hb:(m.at k).isB with
  | true=>rfl
  | false=>simp [hb] at h1
theorem zvi {m:Md} {k:Nat} {t:api_Task} (h:(m.at k).isB=true):m.wayk k t=none := Md.way_base h
theorem zq7 {k:Int} : (lookM kinL k).isSome=decide (¬ (k < 1∨3 < k)) := by
  rw [zm4,Bool.eq_iff_iff,decide_eq_true_iff]
  by_cases h1:k=1
  · rw [if_pos h1]; simp; omega
  · by_cases h2:k=2
    · rw [if_neg h1,if_pos h2]; simp; omega
    · by_cases h3:k=3
      · rw [if_neg h1,if_neg h2,if_pos h3]; simp; omega
      · rw [if_neg h1,if_neg h2,if_neg h3]; simp; omega
theorem zm6 {m:Md} {n:ByteArray} {k:Nat} {t:api_Task} (h:m.find n=some k):m.carryN (m.dv.length + 1) n t=m.carryk k t := Md.carryN_dev h
theorem c_Do {W:World} {b:Nat} {c:MH} {m:Md} {n:ByteArray} {t:api_Task} (hwr:m.wr < 100000000) (htk:m.tks + 1≤100000) (hwl:∀ i,(m.at i).wait.length < 100000) (hb : -9223372036854775808≤t.At∧t.At≤9223372036854775807) :
    CSpec Tryz.prog W 37 [ptr b 0,.string n,.agg #[.int .i64 t.Kind,.int .i64 t.At,.int .u64 (t.Value.toNat:Int)]] [blk b 84 (za3 c m),MapR c m] (fun _:MH => .tuple #[.agg #[.bool (m.doA n t).Done,.int .i64 (m.doA n t).Ticket,.int .u64 ((m.doA n t).Value.toNat:Int),.int .i64 (m.doA n t).Error],.int .i64 (m.doE n t)]) (fun _=>True) (fun c2 F=>blk b 84 (za3 c2 (m.doS n t))::MapR c2 (m.doS n t)::F) := by
 refine CSpec.of_body Tryz.func37 rfl Tryz.ntmps37 rfl fun F => ?_
 show CJ _ _ _ _ _ _ (_::_::F)
 refine zba (zb4 foc1) fun hW => ?_
 have hO := hW.ok
 have hns := Md.names_len (m:=m)
 have hln := hW.big.len
 refine sR <| oO <| O_box rfl rfl rfl fun b1=>oO <| zb1 Tryz.zeroValue51 rfl rfl fun b2=>oA rfl rfl <| nT <| sR <| oM rfl rfl <| oP (zaf rfl) rfl <| oP (zaa rfl ⟨_,_,_,Tryz.runUnderlying84,rfl,rfl,Tryz.sizeOf82,rfl⟩) rfl <| oV (zag rfl foc2 rfl Tryz.isAgg82) rfl <| oM rfl rfl <| oO (zeb rfl rfl foc3 rfl (fun hd4 => ?_) (fun k3 hd4 => ?_))
 ·
  refine oA rfl rfl <| nT <| zad <| za4 0 (by kernel_rfl) rfl <| aN 0 1 rfl rfl (zah rfl) rfl <| aN 2 5 rfl rfl (zaa rfl ⟨_,_,_,Tryz.runUnderlying33,rfl,rfl,Tryz.sizeOf3,rfl⟩) rfl <| aV 3 13 rfl rfl (zac rfl) (t0_ (t0_ (t0_ (t0_ eR)))) (zag rfl foc1 rfl Tryz.isAgg3) rfl <| AJ_op 1 15 rfl (by kernel_rfl) rfl (zac rfl) <| zaq (zl4) rfl Tryz.call85 Dels.nil rfl fun _ hc6=>⟨fun _=>(t1_ (t1_ (t1_ (t1_ (eD eR))))),?_⟩
  refine AJ_op 4 31 rfl (by kernel_rfl) rfl (zac rfl) <| OJ_V (VJ_eq (zkt (M:=mKin b) (k:=t.Kind) (out:=(fun o=>match o with | some f => .func (.func f) #[ptr b 0] #[] | none => .nilFunc)) rfl rfl foc0 zhf Tryz.zeroValue131 (fun _=>rfl) rfl) (show Value.tuple #[(fun o=>match o with | some f => .func (.func f) #[ptr b 0] #[] | none => .nilFunc) (lookM kinL t.Kind),.bool (decide (¬ (t.Kind < 1∨3 < t.Kind)))]=Value.tuple #[(fun o=>match o with | some f => .func (.func f) #[ptr b 0] #[] | none => .nilFunc) (lookM kinL t.Kind),.bool (lookM kinL t.Kind).isSome] by rw [zq7])) rfl <| ⟨fun _=>(t1_ (t1_ (t1_ (t1_ (eD eR))))),?_⟩
  refine aN 5 63 rfl rfl (zah rfl) rfl <| aN 6 127 rfl rfl (za1 rfl rfl) rfl <| aN 7 255 rfl rfl (za1 rfl rfl) rfl <| aN 8 511 rfl rfl (zbc rfl) rfl <| aN 9 1023 rfl rfl (zbc rfl) rfl <| aD <| zad <| zas <| sR <| oM rfl rfl <| oP (zaf rfl) rfl <| oP (zaa rfl ⟨_,_,_,Tryz.runUnderlying84,rfl,rfl,Tryz.sizeOf59,rfl⟩) rfl <| oV (zag rfl foc3 rfl Tryz.isAgg59) rfl <| oM rfl rfl <| oO <| zaq (zcb rdOrd (zem (by first | assumption | omega))) rfl Tryz.call56 (Dels.cons del4 Dels.nil) rfl fun _ hc7=>oP (P_not rfl) rfl <| oA rfl rfl <| nT ?_
  first | (refine zao rfl (fun hg1 => ?_) (fun hg1 => ?_)) | (refine zap rfl (fun hg1 => ?_) (fun hg1 => ?_)) | (refine zar rfl (fun hg1 => ?_) (fun hg1 => ?_))
  ·
   refine sR <| oP (zbm rfl (zfb)) rfl <| oO <| zbj rfl rfl foc2 Tryz.sizeOf51 rfl rfl rfl <| oA rfl rfl <| nT <| zaj <| zam <| zae <| zan (resA2 Tryz.results37 (zb8 rfl foc2 Tryz.isAgg51 Tryz.sizeOf51 rfl rfl) (zcy rfl)) ?_
   have hfn:m.find n=none := by
     cases hf:m.find n with
     | none=>rfl
     | some i=>exfalso; simp_all [Md.memS_find]
   have e1 := Md.do_none (t:=t) hfn
   rw [e1.2.2]
   refine CSpec.close c ?_ ?_ (t4_ (t0_ (eD (eD (eD eR)))))
   · rw [e1.1,e1.2.1]; rfl
   · trivial
  ·
   refine zad ?_
   have hfs:(m.find n).isSome=true := by
     have hz:(!memS m.names n)=false := by assumption
     simpa [Md.memS_find] using hz
   obtain ⟨kf,hfk,hfB⟩ := zst hd4 hfs
   refine zai <| oM rfl rfl <| oP (P_not rfl) rfl <| oA rfl rfl <| nT ?_
   first | (refine zao rfl (fun hg2 => ?_) (fun hg2 => ?_)) | (refine zap rfl (fun hg2 => ?_) (fun hg2 => ?_)) | (refine zar rfl (fun hg2 => ?_) (fun hg2 => ?_))
   ·
    have hkd:t.Kind < 1∨3 < t.Kind := Decidable.byContradiction fun hq=>by simp [hq] at hg2
    refine sR <| oP (zbm rfl (zfb)) rfl <| oO <| zbj rfl rfl foc2 Tryz.sizeOf51 rfl rfl rfl <| oA rfl rfl <| nT <| zaj <| zam <| zae <| zan (resA2 Tryz.results37 (zb8 rfl foc2 Tryz.isAgg51 Tryz.sizeOf51 rfl rfl) (zcy rfl)) ?_
    have e1 := Md.do_kind (t:=t) hfk hkd
    rw [e1.2.2]
    refine CSpec.close c ?_ ?_ (t4_ (t0_ (eD (eD (eD eR)))))
    · rw [e1.1,e1.2.1]; rfl
    · trivial
   ·
    have hkd:¬ (t.Kind < 1∨3 < t.Kind) := fun hq=>by simp [hq] at hg2
    refine sR <| oM rfl rfl <| oP (zhc rfl rfl Tryz.underlying85) rfl <| oM rfl rfl <| RJ_gn (GY_no rfl rfl rfl rfl) rfl rfl <| RJ_gn (GY_no rfl rfl rfl rfl) rfl rfl <| RJ_gn (GY_no rfl rfl rfl rfl) rfl rfl <| RJ_gn (GY_no rfl rfl rfl rfl) rfl rfl <| RJ_gn (GY_no rfl rfl rfl rfl) rfl rfl <| oP (za5 rfl rfl rfl) rfl <| oM rfl rfl <| RJ_gn (GY_no rfl rfl rfl rfl) rfl rfl <| RJ_gn (GY_no rfl rfl rfl rfl) rfl rfl <| RJ_gn (GY_no rfl rfl rfl rfl) rfl rfl <| RJ_gn (GY_no rfl rfl rfl rfl) rfl rfl <| RJ_gn (GY_no rfl rfl rfl rfl) rfl rfl <| oP (za5 rfl rfl rfl) rfl <| oA rfl rfl <| nT <| zbf rfl rfl <| za8 <| zak <| zat <| zad <| zad ?_
    have hst:¬ ((m.at kf).isB=false∧(m.at kf).hl=false∧(m.at kf).susp=false) := by rw [hfB]; simp
    have hw:m.wayk kf t=none := zvi hfB
    refine zai <| oM rfl rfl <| oP (zhc rfl rfl Tryz.underlying85) rfl <| nT <| zbf rfl rfl <| kT <| sR <| oM rfl rfl <| oM rfl rfl <| oV (zbo rfl foc3 Tryz.isAgg33 Tryz.sizeOf33 rfl rfl) rfl <| oO <| zaq ((zge (t:=t) hwr hb hfs (by omega))) rfl Tryz.call82 (Dels.cons del4 (Dels.cons del0 Dels.nil)) rfl fun c9 h9=>oO <| zbj rfl rfl foc3 Tryz.sizeOf51 rfl rfl rfl <| oA rfl rfl <| nT <| zaj <| zan (resA2 Tryz.results37 (zb8 rfl foc3 Tryz.isAgg51 Tryz.sizeOf51 rfl rfl) (zcy rfl)) ?_
    have e1 := Md.do_go (t:=t) hfk hkd hst hw
    rw [e1.2.2]
    have e2 := zm6 (t:=t) hfk
    have e3:ansN m n t=⟨true,0,(m.carryk kf t).1.1,(m.carryk kf t).1.2⟩ := by unfold ansN; rw [e2]
    refine CSpec.close c9 ?_ ?_ (Ent.takeC del0 (by rw [← e2]; exact congrArg (blk b 84) h9.1.symm) (Ent.takeC del0 (by rw [e2]) (eD (eD (eD eR)))))
    · rw [e1.1,e1.2.1, ← e3]; rfl
    · trivial
 ·
  refine oA rfl rfl <| nT <| zad <| za4 0 (by kernel_rfl) rfl <| aN 0 1 rfl rfl (zah rfl) rfl <| aN 2 5 rfl rfl (zaa rfl ⟨_,_,_,Tryz.runUnderlying33,rfl,rfl,Tryz.sizeOf3,rfl⟩) rfl <| aV 3 13 rfl rfl (zac rfl) (t0_ (t0_ (t0_ (t0_ eR)))) (zag rfl foc1 rfl Tryz.isAgg3) rfl <| AJ_op 1 15 rfl (by kernel_rfl) rfl (zac rfl) <| zaq (zl4) rfl Tryz.call85 Dels.nil rfl fun _ hc10=>⟨fun _=>(t1_ (t1_ (t1_ (t1_ (eD eR))))),?_⟩
  refine AJ_op 4 31 rfl (by kernel_rfl) rfl (zac rfl) <| OJ_V (VJ_eq (zkt (M:=mKin b) (k:=t.Kind) (out:=(fun o=>match o with | some f => .func (.func f) #[ptr b 0] #[] | none => .nilFunc)) rfl rfl foc0 zhf Tryz.zeroValue131 (fun _=>rfl) rfl) (show Value.tuple #[(fun o=>match o with | some f => .func (.func f) #[ptr b 0] #[] | none => .nilFunc) (lookM kinL t.Kind),.bool (decide (¬ (t.Kind < 1∨3 < t.Kind)))]=Value.tuple #[(fun o=>match o with | some f => .func (.func f) #[ptr b 0] #[] | none => .nilFunc) (lookM kinL t.Kind),.bool (lookM kinL t.Kind).isSome] by rw [zq7])) rfl <| ⟨fun _=>(t1_ (t1_ (t1_ (t1_ (eD eR))))),?_⟩
  refine aN 5 63 rfl rfl (zah rfl) rfl <| aN 6 127 rfl rfl (za1 rfl rfl) rfl <| aN 7 255 rfl rfl (za1 rfl rfl) rfl <| aN 8 511 rfl rfl (zbc rfl) rfl <| aN 9 1023 rfl rfl (zbc rfl) rfl <| aD <| zad <| zas <| sR <| oM rfl rfl <| oP (zaf rfl) rfl <| oP (zaa rfl ⟨_,_,_,Tryz.runUnderlying84,rfl,rfl,Tryz.sizeOf59,rfl⟩) rfl <| oV (zag rfl foc3 rfl Tryz.isAgg59) rfl <| oM rfl rfl <| oO <| zaq (zcb rdOrd (zem (by first | assumption | omega))) rfl Tryz.call56 (Dels.cons del4 Dels.nil) rfl fun _ hc11=>oP (P_not rfl) rfl <| oA rfl rfl <| nT ?_
  first | (refine zao rfl (fun hg3 => ?_) (fun hg3 => ?_)) | (refine zap rfl (fun hg3 => ?_) (fun hg3 => ?_)) | (refine zar rfl (fun hg3 => ?_) (fun hg3 => ?_))
  ·
   refine sR <| oP (zbm rfl (zfb)) rfl <| oO <| zbj rfl rfl foc2 Tryz.sizeOf51 rfl rfl rfl <| oA rfl rfl <| nT <| zaj <| zam <| zae <| zan (resA2 Tryz.results37 (zb8 rfl foc2 Tryz.isAgg51 Tryz.sizeOf51 rfl rfl) (zcy rfl)) ?_
   have hfn:m.find n=none := by
     cases hf:m.find n with
     | none=>rfl
     | some i=>exfalso; simp_all [Md.memS_find]
   have e1 := Md.do_none (t:=t) hfn
   rw [e1.2.2]
   refine CSpec.close c ?_ ?_ (t4_ (t0_ (eD (eD (eD eR)))))
   · rw [e1.1,e1.2.1]; rfl
   · trivial
  ·
   refine zad ?_
   have hfs:(m.find n).isSome=true := by
     have hz:(!memS m.names n)=false := by assumption
     simpa [Md.memS_find] using hz
   have hdk := Md.dev_is hd4
   have hfk := hdk.2
   refine zai <| oM rfl rfl <| oP (P_not rfl) rfl <| oA rfl rfl <| nT ?_
   first | (refine zao rfl (fun hg4 => ?_) (fun hg4 => ?_)) | (refine zap rfl (fun hg4 => ?_) (fun hg4 => ?_)) | (refine zar rfl (fun hg4 => ?_) (fun hg4 => ?_))
   ·
    have hkd:t.Kind < 1∨3 < t.Kind := Decidable.byContradiction fun hq=>by simp [hq] at hg4
    refine sR <| oP (zbm rfl (zfb)) rfl <| oO <| zbj rfl rfl foc2 Tryz.sizeOf51 rfl rfl rfl <| oA rfl rfl <| nT <| zaj <| zam <| zae <| zan (resA2 Tryz.results37 (zb8 rfl foc2 Tryz.isAgg51 Tryz.sizeOf51 rfl rfl) (zcy rfl)) ?_
    have e1 := Md.do_kind (t:=t) hfk hkd
    rw [e1.2.2]
    refine CSpec.close c ?_ ?_ (t4_ (t0_ (eD (eD (eD eR)))))
    · rw [e1.1,e1.2.1]; rfl
    · trivial
   ·
    have hkd:¬ (t.Kind < 1∨3 < t.Kind) := fun hq=>by simp [hq] at hg4
    refine sR <| oM rfl rfl <| oP (zgj rfl rfl Tryz.underlying85) rfl <| oM rfl rfl <| gP (zab rfl rfl rfl rfl) (zah rfl) rfl <| gP (zab rfl rfl rfl rfl) (zaf rfl) rfl <| gP (zab rfl rfl rfl rfl) (zaa rfl ⟨_,_,_,Tryz.runUnderlying111,rfl,rfl,Tryz.sizeOf4,rfl⟩) rfl <| gV (zab rfl rfl rfl rfl) (zby (Ent.trans (t0_ eR) (zbl (Md.dev_is hd4).1)) (zag rfl foc0 rfl Tryz.isAgg4)) rfl <| gP (zab rfl rfl rfl rfl) (P_not rfl) rfl <| oP (za2 rfl rfl rfl) rfl <| oM rfl rfl ?_
    first | (refine zbp 49 rfl (fun hg5B hg5 => ?_) (fun hg5B hg5 => ?_)) | (refine zbq 49 rfl (fun hg5B hg5 => ?_) (fun hg5B hg5 => ?_)) | (refine zbr 49 rfl (fun hg5B => ?_) (fun hg5B => ?_))
    ·
     refine gP (zab rfl rfl rfl hg5B) (zah rfl) rfl <| gP (zab rfl rfl rfl hg5B) (zaf rfl) rfl <| gP (zab rfl rfl rfl hg5B) (zaa rfl ⟨_,_,_,Tryz.runUnderlying111,rfl,rfl,Tryz.sizeOf4,rfl⟩) rfl <| gV (zab rfl rfl rfl hg5B) (zby (Ent.trans (t0_ eR) (zbl (Md.dev_is hd4).1)) (zag rfl foc0 rfl Tryz.isAgg4)) rfl <| gP (zab rfl rfl rfl hg5B) (P_not rfl) rfl <| oP (za2 rfl hg5B rfl) rfl <| oA rfl rfl <| nT ?_
     first | (refine zao rfl (fun hg6 => ?_) (fun hg6 => ?_)) | (refine zap rfl (fun hg6 => ?_) (fun hg6 => ?_)) | (refine zar rfl (fun hg6 => ?_) (fun hg6 => ?_))
     ·
      refine sR <| oP (zbm rfl (zfb)) rfl <| oO <| zbj rfl rfl foc2 Tryz.sizeOf51 rfl rfl rfl <| oA rfl rfl <| nT <| zaj <| zam <| zae <| zan (resA2 Tryz.results37 (zb8 rfl foc2 Tryz.isAgg51 Tryz.sizeOf51 rfl rfl) (zcy rfl)) ?_
      have e1 := Md.do_state (t:=t) hfk hkd ⟨(Md.dev_is hd4).1.2.2,by simp_all,by simp_all⟩
      rw [e1.2.2]
      refine CSpec.close c ?_ ?_ (t4_ (t0_ (eD (eD (eD eR)))))
      · rw [e1.1,e1.2.1]; rfl
      · trivial
     ·
      refine za8 <| zak <| zat <| zad <| zad ?_
      have hst:¬ ((m.at k3).isB=false∧(m.at k3).hl=false∧(m.at k3).susp=false) := by simp_all
      refine zai <| oM rfl rfl <| oP (zgj rfl rfl Tryz.underlying85) rfl <| nT <| zbk rfl rfl <| sR <| oM rfl rfl <| oM rfl rfl <| oV (zbo rfl foc3 Tryz.isAgg33 Tryz.sizeOf33 rfl rfl) rfl <| oO <| zaq (zlg (t:=t) (Md.dev_is hd4).1) rfl Tryz.call78 (Dels.cons del4 (Dels.cons del0 Dels.nil)) rfl fun _ hc12=>oA rfl rfl <| nT <| sR <| oM rfl rfl <| oP (zjo rfl rfl Tryz.underlying85) rfl <| nT ?_
      first | (refine zao rfl (fun hg7 => ?_) (fun hg7 => ?_)) | (refine zap rfl (fun hg7 => ?_) (fun hg7 => ?_)) | (refine zar rfl (fun hg7 => ?_) (fun hg7 => ?_))
      ·
       refine zad ?_
       obtain ⟨w,hw0⟩ := Option.isSome_iff_exists.1 (show (m.wayk k3 t).isSome=true by assumption)
       have hw := hw0
       have hwD:m.isD w := by have := Md.way_is hO _ _ _ _ hdk.1.1 hdk.1.2.1 hw0; exact ⟨this.1,this.2.1,this.2.2.1⟩
       rw [hw0]
       refine zai <| oM rfl rfl <| oP (zaf rfl) rfl <| oP (zaa rfl ⟨_,_,_,Tryz.runUnderlying84,rfl,rfl,Tryz.sizeOf3,rfl⟩) rfl <| oV (zag rfl foc0 rfl Tryz.isAgg3) rfl <| oP (P_add rfl rfl (by omega)) rfl <| oP (zaf rfl) rfl <| oP (zaa rfl ⟨_,_,_,Tryz.runUnderlying84,rfl,rfl,Tryz.sizeOf3,rfl⟩) rfl <| oO <| zbh rfl rfl foc0 rfl rfl Tryz.sizeOf3 <| nT <| zad <| zbd (Ent.trans (t1_ eR) (zbl hwD)) <| za4 73728 (by kernel_rfl) rfl <| aN 0 1 rfl rfl (zah rfl) rfl <| aN 1 3 rfl rfl (zah rfl) rfl <| aN 2 7 rfl rfl (zaf rfl) rfl <| aN 3 15 rfl rfl (zaa rfl ⟨_,_,_,Tryz.runUnderlying111,rfl,rfl,Tryz.sizeOf109,rfl⟩) rfl <| aV 4 31 rfl rfl (zac rfl) (t0_ (t0_ (t0_ (t0_ (t0_ (t0_ (t0_ (t0_ (t0_ eR))))))))) (zag rfl foc0 rfl Tryz.isAgg109) rfl <| aN 5 63 rfl rfl (zah rfl) rfl <| aN 6 127 rfl rfl (zaf rfl) rfl <| aN 7 255 rfl rfl (zaa rfl ⟨_,_,_,Tryz.runUnderlying84,rfl,rfl,Tryz.sizeOf3,rfl⟩) rfl <| aV 8 511 rfl rfl (zac rfl) (t0_ (t0_ (t0_ (t0_ (t0_ (t0_ (t0_ (t0_ (t0_ eR))))))))) (zag rfl foc5 rfl Tryz.isAgg3) rfl <| aN 9 1023 rfl rfl (zah rfl) rfl ?_
       refine aV 10 2047 rfl rfl (zac rfl) (t0_ (t0_ (t0_ (t0_ (t0_ (t0_ (t0_ (t0_ (t0_ eR))))))))) (zbo rfl foc8 Tryz.isAgg33 Tryz.sizeOf33 rfl rfl) rfl <| aN 11 4095 rfl rfl (zbm rfl (zg0 _ _ _ _ _)) rfl <| AJ_op 12 8191 rfl (by kernel_rfl) rfl (zac rfl) <| za7 rfl (zh2 _ _ _ _ _) rfl fun b13=>⟨fun _=>(t1_ (t1_ (t1_ (t1_ (t1_ (t1_ (t1_ (t1_ (t1_ (eD eR)))))))))),?_⟩
       refine AJ_op 13 16383 rfl (by kernel_rfl) rfl (zac rfl) <| zbv (t:=tyErr) (bytes:=40) rfl rfl del4 foc0 (Reads.lit (t:=tyErr) (ys:=[⟨((m.tks + 1:Nat):Int),c.bs k3,t⟩]) rfl rfl (by decide) (by decide) rfl) Tryz.underlying109 zj6 (by have h8 := hW.big.wl w; simp only [List.length_append,List.length_map,List.length_cons,List.length_nil,maxLen] at *; omega) (by have h8 := hW.big.wl w; simp only [List.length_append,List.length_map,List.length_cons,List.length_nil,maxLen] at *; omega) rfl fun p14 c15=>⟨fun h=>absurd h (by decide),?_⟩
       refine aN 14 32767 rfl rfl (zaf rfl) rfl <| aN 15 65535 rfl rfl (zaa rfl ⟨_,_,_,Tryz.runUnderlying111,rfl,rfl,Tryz.sizeOf109,rfl⟩) rfl <| AJ_op 16 131071 rfl (by kernel_rfl) rfl (zac rfl) <| zbh rfl rfl foc2 rfl rfl Tryz.sizeOf109 <| ⟨fun h=>absurd h (by decide),?_⟩
       refine aD <| sR <| oM rfl rfl <| oP (zaf rfl) rfl <| oP (zaa rfl ⟨_,_,_,Tryz.runUnderlying84,rfl,rfl,Tryz.sizeOf3,rfl⟩) rfl <| oV (zag rfl foc6 rfl Tryz.isAgg3) rfl <| oP (zbm rfl (zi8 _)) rfl <| oO <| zbj rfl rfl foc8 Tryz.sizeOf51 rfl rfl rfl <| oA rfl rfl <| nT <| zaj <| zae <| zan (resA2 Tryz.results37 (zb8 rfl foc8 Tryz.isAgg51 Tryz.sizeOf51 rfl rfl) (zcy rfl)) ?_
       have e1 := Md.do_wait (t:=t) hfk hkd hst hw
       rw [e1.2.2]
       refine CSpec.close (c.put w { c.hd w with wt := ⟨p14,_,c15⟩ } { m.at w with wait := (m.at w).wait ++ [⟨m.tks + 1,k3,t⟩] }) ?_ ?_ (Ent.trans (Ent.trans (t2_ (t2_ (t2_ (Ent.takeC del0 (by rw [List.map_append]; rfl) (t1_ eR))))) (zeo (h' := { c.hd w with wt := ⟨p14,_,c15⟩ }) (d' := { m.at w with wait := (m.at w).wait ++ [⟨m.tks + 1,k3,t⟩] }) (m' := { m with tks := m.tks + 1 }.addW w ⟨m.tks + 1,k3,t⟩) hW hwD rfl hwD.2.2 rfl rfl rfl (Md.ok_addW hO hwD ⟨hdk.1.1,hdk.1.2.1,hdk.1.2.2,by show 1≤t.Kind; omega,by show t.Kind≤3; omega,(show inT t from hb)⟩) (hW.big.set hwD.1 rfl (by show ((m.at w).wait ++ _).length≤_; rw [List.length_append]; have := hwl w; simp; omega) htk hW.big.told hW.big.wr) rfl rfl)) (t2_ (t0_ (eD (eD (eD (eD eR)))))))
       · rw [e1.1,e1.2.1]; rfl
       · trivial
      ·
       refine kT <| zad ?_
       have hw:m.wayk k3 t=none := by simpa using (show (m.wayk k3 t).isSome=false by assumption)
       refine zai <| oM rfl rfl <| oM rfl rfl <| oV (zbo rfl foc4 Tryz.isAgg33 Tryz.sizeOf33 rfl rfl) rfl <| oO <| zaq ((zge (t:=t) hwr hb hfs (by omega))) rfl Tryz.call82 (Dels.cons del0 (Dels.cons del0 Dels.nil)) rfl fun c9 h9=>oO <| zbj rfl rfl foc3 Tryz.sizeOf51 rfl rfl rfl <| oA rfl rfl <| nT <| zaj <| zan (resA2 Tryz.results37 (zb8 rfl foc3 Tryz.isAgg51 Tryz.sizeOf51 rfl rfl) (zcy rfl)) ?_
       have e1 := Md.do_go (t:=t) hfk hkd hst hw
       rw [e1.2.2]
       have e2 := zm6 (t:=t) hfk
       have e3:ansN m n t=⟨true,0,(m.carryk k3 t).1.1,(m.carryk k3 t).1.2⟩ := by unfold ansN; rw [e2]
       refine CSpec.close c9 ?_ ?_ (Ent.takeC del0 (by rw [← e2]; exact congrArg (blk b 84) h9.1.symm) (Ent.takeC del0 (by rw [e2]) (eD (eD (eD eR)))))
       · rw [e1.1,e1.2.1, ← e3]; rfl
       · trivial
    ·
     refine RJ_gn (GY_no rfl rfl rfl hg5B) rfl rfl <| RJ_gn (GY_no rfl rfl rfl hg5B) rfl rfl <| RJ_gn (GY_no rfl rfl rfl hg5B) rfl rfl <| RJ_gn (GY_no rfl rfl rfl hg5B) rfl rfl <| RJ_gn (GY_no rfl rfl rfl hg5B) rfl rfl <| oP (za5 rfl hg5B rfl) rfl <| oA rfl rfl <| nT <| zbf rfl rfl <| za8 <| zak <| zat <| zad <| zad ?_
     have hst:¬ ((m.at k3).isB=false∧(m.at k3).hl=false∧(m.at k3).susp=false) := by simp_all
     refine zai <| oM rfl rfl <| oP (zgj rfl rfl Tryz.underlying85) rfl <| nT <| zbk rfl rfl <| sR <| oM rfl rfl <| oM rfl rfl <| oV (zbo rfl foc3 Tryz.isAgg33 Tryz.sizeOf33 rfl rfl) rfl <| oO <| zaq (zlg (t:=t) (Md.dev_is hd4).1) rfl Tryz.call78 (Dels.cons del4 (Dels.cons del0 Dels.nil)) rfl fun _ hc17=>oA rfl rfl <| nT <| sR <| oM rfl rfl <| oP (zjo rfl rfl Tryz.underlying85) rfl <| nT ?_
     first | (refine zao rfl (fun hg8 => ?_) (fun hg8 => ?_)) | (refine zap rfl (fun hg8 => ?_) (fun hg8 => ?_)) | (refine zar rfl (fun hg8 => ?_) (fun hg8 => ?_))
     ·
      refine zad ?_
      obtain ⟨w,hw0⟩ := Option.isSome_iff_exists.1 (show (m.wayk k3 t).isSome=true by assumption)
      have hw := hw0
      have hwD:m.isD w := by have := Md.way_is hO _ _ _ _ hdk.1.1 hdk.1.2.1 hw0; exact ⟨this.1,this.2.1,this.2.2.1⟩
      rw [hw0]
      refine zai <| oM rfl rfl <| oP (zaf rfl) rfl <| oP (zaa rfl ⟨_,_,_,Tryz.runUnderlying84,rfl,rfl,Tryz.sizeOf3,rfl⟩) rfl <| oV (zag rfl foc0 rfl Tryz.isAgg3) rfl <| oP (P_add rfl rfl (by omega)) rfl <| oP (zaf rfl) rfl <| oP (zaa rfl ⟨_,_,_,Tryz.runUnderlying84,rfl,rfl,Tryz.sizeOf3,rfl⟩) rfl <| oO <| zbh rfl rfl foc0 rfl rfl Tryz.sizeOf3 <| nT <| zad <| zbd (Ent.trans (t1_ eR) (zbl hwD)) <| za4 73728 (by kernel_rfl) rfl <| aN 0 1 rfl rfl (zah rfl) rfl <| aN 1 3 rfl rfl (zah rfl) rfl <| aN 2 7 rfl rfl (zaf rfl) rfl <| aN 3 15 rfl rfl (zaa rfl ⟨_,_,_,Tryz.runUnderlying111,rfl,rfl,Tryz.sizeOf109,rfl⟩) rfl <| aV 4 31 rfl rfl (zac rfl) (t0_ (t0_ (t0_ (t0_ (t0_ (t0_ (t0_ (t0_ (t0_ eR))))))))) (zag rfl foc0 rfl Tryz.isAgg109) rfl <| aN 5 63 rfl rfl (zah rfl) rfl <| aN 6 127 rfl rfl (zaf rfl) rfl <| aN 7 255 rfl rfl (zaa rfl ⟨_,_,_,Tryz.runUnderlying84,rfl,rfl,Tryz.sizeOf3,rfl⟩) rfl <| aV 8 511 rfl rfl (zac rfl) (t0_ (t0_ (t0_ (t0_ (t0_ (t0_ (t0_ (t0_ (t0_ eR))))))))) (zag rfl foc5 rfl Tryz.isAgg3) rfl <| aN 9 1023 rfl rfl (zah rfl) rfl ?_
      refine aV 10 2047 rfl rfl (zac rfl) (t0_ (t0_ (t0_ (t0_ (t0_ (t0_ (t0_ (t0_ (t0_ eR))))))))) (zbo rfl foc8 Tryz.isAgg33 Tryz.sizeOf33 rfl rfl) rfl <| aN 11 4095 rfl rfl (zbm rfl (zg0 _ _ _ _ _)) rfl <| AJ_op 12 8191 rfl (by kernel_rfl) rfl (zac rfl) <| za7 rfl (zh2 _ _ _ _ _) rfl fun b18=>⟨fun _=>(t1_ (t1_ (t1_ (t1_ (t1_ (t1_ (t1_ (t1_ (t1_ (eD eR)))))))))),?_⟩
      refine AJ_op 13 16383 rfl (by kernel_rfl) rfl (zac rfl) <| zbv (t:=tyErr) (bytes:=40) rfl rfl del4 foc0 (Reads.lit (t:=tyErr) (ys:=[⟨((m.tks + 1:Nat):Int),c.bs k3,t⟩]) rfl rfl (by decide) (by decide) rfl) Tryz.underlying109 zj6 (by have h8 := hW.big.wl w; simp only [List.length_append,List.length_map,List.length_cons,List.length_nil,maxLen] at *; omega) (by have h8 := hW.big.wl w; simp only [List.length_append,List.length_map,List.length_cons,List.length_nil,maxLen] at *; omega) rfl fun p19 c20=>⟨fun h=>absurd h (by decide),?_⟩
      refine aN 14 32767 rfl rfl (zaf rfl) rfl <| aN 15 65535 rfl rfl (zaa rfl ⟨_,_,_,Tryz.runUnderlying111,rfl,rfl,Tryz.sizeOf109,rfl⟩) rfl <| AJ_op 16 131071 rfl (by kernel_rfl) rfl (zac rfl) <| zbh rfl rfl foc2 rfl rfl Tryz.sizeOf109 <| ⟨fun h=>absurd h (by decide),?_⟩
      refine aD <| sR <| oM rfl rfl <| oP (zaf rfl) rfl <| oP (zaa rfl ⟨_,_,_,Tryz.runUnderlying84,rfl,rfl,Tryz.sizeOf3,rfl⟩) rfl <| oV (zag rfl foc6 rfl Tryz.isAgg3) rfl <| oP (zbm rfl (zi8 _)) rfl <| oO <| zbj rfl rfl foc8 Tryz.sizeOf51 rfl rfl rfl <| oA rfl rfl <| nT <| zaj <| zae <| zan (resA2 Tryz.results37 (zb8 rfl foc8 Tryz.isAgg51 Tryz.sizeOf51 rfl rfl) (zcy rfl)) ?_
      have e1 := Md.do_wait (t:=t) hfk hkd hst hw
      rw [e1.2.2]
      refine CSpec.close (c.put w { c.hd w with wt := ⟨p19,_,c20⟩ } { m.at w with wait := (m.at w).wait ++ [⟨m.tks + 1,k3,t⟩] }) ?_ ?_ (Ent.trans (Ent.trans (t2_ (t2_ (t2_ (Ent.takeC del0 (by rw [List.map_append]; rfl) (t1_ eR))))) (zeo (h' := { c.hd w with wt := ⟨p19,_,c20⟩ }) (d' := { m.at w with wait := (m.at w).wait ++ [⟨m.tks + 1,k3,t⟩] }) (m' := { m with tks := m.tks + 1 }.addW w ⟨m.tks + 1,k3,t⟩) hW hwD rfl hwD.2.2 rfl rfl rfl (Md.ok_addW hO hwD ⟨hdk.1.1,hdk.1.2.1,hdk.1.2.2,by show 1≤t.Kind; omega,by show t.Kind≤3; omega,(show inT t from hb)⟩) (hW.big.set hwD.1 rfl (by show ((m.at w).wait ++ _).length≤_; rw [List.length_append]; have := hwl w; simp; omega) htk hW.big.told hW.big.wr) rfl rfl)) (t2_ (t0_ (eD (eD (eD (eD eR)))))))
      · rw [e1.1,e1.2.1]; rfl
      · trivial
     ·
      refine kT <| zad ?_
      have hw:m.wayk k3 t=none := by simpa using (show (m.wayk k3 t).isSome=false by assumption)
      refine zai <| oM rfl rfl <| oM rfl rfl <| oV (zbo rfl foc4 Tryz.isAgg33 Tryz.sizeOf33 rfl rfl) rfl <| oO <| zaq ((zge (t:=t) hwr hb hfs (by omega))) rfl Tryz.call82 (Dels.cons del0 (Dels.cons del0 Dels.nil)) rfl fun c9 h9=>oO <| zbj rfl rfl foc3 Tryz.sizeOf51 rfl rfl rfl <| oA rfl rfl <| nT <| zaj <| zan (resA2 Tryz.results37 (zb8 rfl foc3 Tryz.isAgg51 Tryz.sizeOf51 rfl rfl) (zcy rfl)) ?_
      have e1 := Md.do_go (t:=t) hfk hkd hst hw
      rw [e1.2.2]
      have e2 := zm6 (t:=t) hfk
      have e3:ansN m n t=⟨true,0,(m.carryk k3 t).1.1,(m.carryk k3 t).1.2⟩ := by unfold ansN; rw [e2]
      refine CSpec.close c9 ?_ ?_ (Ent.takeC del0 (by rw [← e2]; exact congrArg (blk b 84) h9.1.symm) (Ent.takeC del0 (by rw [e2]) (eD (eD (eD eR)))))
      · rw [e1.1,e1.2.1, ← e3]; rfl
      · trivial
end Go.Proofs
namespace Go.Proofs
namespace Md
section
variable {m:Md} {k:Nat} {n:ByteArray}
theorem reach_step {f:Nat} {i:Nat} (hf:m.find n=some i):m.reach k (f + 1) n=(decide (i=k) || (tbl (m.at i)).any fun t=>decide (t.On≠noN) && m.reach k f t.On) := by
  rw [reach,hf]; rfl
theorem reach_none {f:Nat} (hf:m.find n=none):m.reach k f n=false := by
  cases f with
  | zero=>rfl
  | succ f=>rw [reach,hf]
def Rch (m:Md) (k:Nat) (n:ByteArray):Prop := ∃ f,m.reach k f n=true
theorem zn6 {rk:Nat→Nat} (hr:m.Rank rk):∀ (f g:Nat) (n:ByteArray),(∀ i,m.find n=some i→rk i < g)→m.reach k f n=true→m.reach k g n=true
  | 0,_,_,_,h=>by cases h
  | f + 1,g,n,hn,h=>by
    cases hf:m.find n with
    | none=>rw [reach_none hf] at h; cases h
    | some i =>
      have h1 := hn i hf
      obtain ⟨g2,rfl⟩:∃ g2,g=g2 + 1 := ⟨g - 1,by omega⟩
      rw [reach_step hf,Bool.or_eq_true] at h ⊢
      rcases h with h | h
      · exact .inl h
      · right
        obtain ⟨t,h2,h3⟩ := List.any_eq_true.1 h
        rw [Bool.and_eq_true] at h3
        refine List.any_eq_true.2 ⟨t,h2,?_⟩
        rw [Bool.and_eq_true]
        obtain ⟨h4,h5⟩ := List.findIdx?_eq_some_iff_getElem.1 hf
        have e:m.at i=m.dv[i] := by simp [Md.at,List.getD,h4]
        have hg:(m.at i).gone=false := by rw [e]; have := h5.1; simp [isN] at this; exact this.1
        exact ⟨h3.1,zn6 hr f g2 t.On (fun j hj=>by have := hr i h4 hg t h2 j hj; omega) h3.2⟩
theorem rch_eq (hO:MdOk m):m.Rch k n↔m.reach k (m.dv.length + 1) n=true := by
  obtain ⟨rk,hr,hb⟩ := rank_bd hO.acy
  exact ⟨fun ⟨f,h⟩=>zn6 hr f _ n (fun i _=>Nat.lt_succ_of_le (hb i)) h,fun h=>⟨_,h⟩⟩
theorem rch_self (hf:m.find n=some k):m.Rch k n := ⟨1,by rw [reach_step hf]; simp⟩
theorem rch_up {i:Nat} {t:api_Target} (hf:m.find n=some i) (ht:t ∈ tbl (m.at i)) (hne:t.On≠noN) (h:m.Rch k t.On):m.Rch k n := by
  obtain ⟨f,h⟩ := h
  refine ⟨f + 1,?_⟩
  rw [reach_step hf,Bool.or_eq_true]
  exact .inr (List.any_eq_true.2 ⟨t,ht,by rw [Bool.and_eq_true]; exact ⟨by simpa using hne,h⟩⟩)
theorem closed_no (hO:MdOk m) (hk:m.isDx k) {P:ByteArray→Prop} (hP:∀ y,P y→y≠(m.at k).name ∧ ∀ i,m.dev y=some i → ∀ t ∈ tbl (m.at i),t.On≠noN→P t.On∨m.dev t.On=none):∀ f n,(P n∨m.dev n=none)→m.reach k f n=false
  | 0,_,_=>rfl
  | f + 1,n,h=>by
    cases hf:m.find n with
    | none=>exact reach_none hf
    | some i =>
      rw [reach_step hf,Bool.or_eq_false_iff]
      have hn:(m.at i).name=n := by
        obtain ⟨h1,h2,_⟩ := List.findIdx?_eq_some_iff_getElem.1 hf
        have e:m.at i=m.dv[i] := by simp [Md.at,List.getD,h1]
        simp [isN] at h2
        rw [e]; exact h2.2
      cases hb:(m.at i).isB with
      | true =>
        obtain ⟨g1,g2,_⟩ := hO.bas i hb
        refine ⟨decide_eq_false (fun e=>by rw [e,hk.2.2] at hb; cases hb),?_⟩
        unfold tbl; rw [g1,g2]; rfl
      | false =>
        have hd:m.dev n=some i := by unfold dev; rw [hf]; simp [hb]
        rcases h with h | h
        · obtain ⟨h1,h2⟩ := hP n h
          refine ⟨decide_eq_false (fun e=>h1 (by rw [← hn,e])),?_⟩
          rw [Bool.eq_false_iff]
          intro h3
          obtain ⟨t,h4,h5⟩ := List.any_eq_true.1 h3
          rw [Bool.and_eq_true] at h5
          have := closed_no hO hk hP f t.On (h2 i hd t h4 (by simpa using h5.1))
          rw [this] at h5; cases h5.2
        · rw [hd] at h; cases h
end
end Md
def qT (d:Dv) (i:Nat):List ByteArray := if i=0 then [] else if i=1 then tuses d.live else tuses d.live ++ tuses d.new
theorem zy3 {d:Dv} {i:Nat} (hi:i < 2):qT d i ++ tuses (([d.live,d.new]:List (List api_Target)).getD i [])=qT d (i + 1) := by
  rcases (by omega:i=0∨i=1) with rfl | rfl
  · simp [qT]
  · simp [qT]
theorem nam_tuses {l:List api_Target} {n:ByteArray} : n ∈ tuses l ↔ ∃ t ∈ l,t.On=n∧n≠noN := by
  rw [← mem_memS]
  unfold tuses
  have key:∀ (l:List api_Target) (o:List ByteArray),memS (zey l o) n=true↔memS o n=true ∨ ∃ t ∈ l,t.On=n∧n≠noN := by
    intro l
    induction l with
    | nil=>intro o; simp [zey]
    | cons t l ih =>
      intro o
      simp only [zey]
      rw [ih]
      have e:memS (if t.On=noN∨memS o t.On=true then o else o ++ [t.On]) n=true↔memS o n=true∨(t.On=n∧n≠noN) := by
        split
        · rename_i h
          constructor
          · exact .inl
          · rintro (h1 | ⟨rfl,h1⟩)
            · exact h1
            · exact h.resolve_left h1
        · rename_i h
          have e2:memS (o ++ [t.On]) n=true↔memS o n=true∨t.On=n := by simp [memS]
          rw [e2]
          constructor
          · rintro (h1 | h1)
            · exact .inl h1
            · exact .inr ⟨h1,fun h2=>h (.inl (h1.trans h2))⟩
          · rintro (h1 | h1)
            · exact .inl h1
            · exact .inr h1.1
      rw [e]
      constructor
      · rintro ((h | h) | ⟨t2,h1,h2⟩)
        · exact .inl h
        · exact .inr ⟨t,List.mem_cons_self,h⟩
        · exact .inr ⟨t2,List.mem_cons_of_mem _ h1,h2⟩
      · rintro (h | ⟨t2,h1,h2⟩)
        · exact .inl (.inl h)
        · rcases List.mem_cons.1 h1 with rfl | h1
          · exact .inl (.inr h2)
          · exact .inr ⟨t2,h1,h2⟩
  rw [key]; simp [memS]
theorem qT_mem {d:Dv} {t:api_Target} (ht:t ∈ Md.tbl d) (hne:t.On≠noN):t.On ∈ qT d 2 := by
  show _ ∈ tuses d.live ++ tuses d.new
  rcases List.mem_append.1 ht with h | h
  · exact List.mem_append.2 (.inl (nam_tuses.2 ⟨t,h,rfl,hne⟩))
  · exact List.mem_append.2 (.inr (nam_tuses.2 ⟨t,h,rfl,hne⟩))
theorem qT_tbl {d:Dv} {n:ByteArray} (h:n ∈ qT d 2):∃ t ∈ Md.tbl d,t.On=n∧n≠noN := by
  rcases List.mem_append.1 (show n ∈ tuses d.live ++ tuses d.new from h) with h | h
  · obtain ⟨t,h1,h2⟩ := nam_tuses.1 h; exact ⟨t,List.mem_append.2 (.inl h1),h2⟩
  · obtain ⟨t,h1,h2⟩ := nam_tuses.1 h; exact ⟨t,List.mem_append.2 (.inr h1),h2⟩
end Go.Proofs
set_option linter.unusedSimpArgs false
set_option maxRecDepth 20000
namespace Go.Proofs
open Go.VG
def MetIn (mt:List (ByteArray × Bool)) (n:ByteArray):Prop := ∃ b,(n,b) ∈ mt
structure Bel (m:Md) (k:Nat) (ls q:List ByteArray) (mt:List (ByteArray × Bool)):Prop where
  seen:∀ u ∈ ls,MetIn mt u∨u ∈ q∨m.dev u=none
  clos:∀ y,MetIn mt y→y≠(m.at k).name ∧ ∀ i,m.dev y=some i → ∀ t ∈ Md.tbl (m.at i),t.On≠noN→MetIn mt t.On∨t.On ∈ q∨m.dev t.On=none
  from_:∀ x ∈ q,m.Rch k x → ∃ u ∈ ls,m.Rch k u
  tr:∀ p ∈ mt,p.2=true∧(m.dev p.1).isSome=true
  nd:(mt.map (·.1)).Nodup
  ql:q.length≤1000 + 200 * mt.length
section
variable {m:Md} {k:Nat} {ls q:List ByteArray} {mt:List (ByteArray × Bool)}
theorem Bel.start (h:ls.length≤1000):Bel m k ls ls [] := ⟨fun u hu => .inr (.inl hu),(fun y ⟨b,hb⟩=>by cases hb),fun x hx hr=>⟨x,hx,hr⟩,(fun p hp=>by cases hp),List.nodup_nil,by simpa using h⟩
theorem zq8 (hn:(mt.map (·.1)).Nodup) {n:ByteArray} : MetIn mt n↔(lookM mt n).isSome=true := by
  constructor
  · rintro ⟨b,hb⟩
    obtain ⟨i,hi,e⟩ := List.getElem_of_mem hb
    have := zow hn (show mt[i]? = some (n,b) by rw [List.getElem?_eq_getElem hi,e])
    rw [this]; rfl
  · intro h
    obtain ⟨b,hb⟩ := Option.isSome_iff_exists.1 h
    obtain ⟨i,hi⟩ := zj9 hb
    exact ⟨b,List.mem_of_getElem? hi⟩
theorem zsu:∀ (l:List (ByteArray × Bool)),(∀ p ∈ l, ∃ j,m.dev p.1=some j)→(l.map (·.1)).Nodup→(l.filterMap fun p=>m.dev p.1).Nodup∧(l.filterMap fun p=>m.dev p.1).length=l.length := by
  intro l
  induction l with
  | nil=>intro _ _; exact ⟨List.nodup_nil,rfl⟩
  | cons p l ih =>
    intro h2 h3
    rw [List.map_cons,List.nodup_cons] at h3
    obtain ⟨j,hj⟩ := h2 p List.mem_cons_self
    obtain ⟨g1,g2⟩ := ih (fun q hq=>h2 q (List.mem_cons_of_mem _ hq)) h3.2
    rw [show (p::l).filterMap (fun p:ByteArray × Bool=>m.dev p.1)=j::l.filterMap (fun p:ByteArray × Bool=>m.dev p.1) from List.filterMap_cons_some hj]
    refine ⟨List.nodup_cons.2 ⟨fun h4 => ?_,g1⟩,by simp [g2]⟩
    obtain ⟨q,h5,h6⟩ := List.mem_filterMap.1 h4
    have e1 := (Md.dev_is hj).2
    have e2 := (Md.dev_is h6).2
    have e3:p.1=q.1 := by rw [← (Md.find_lt e1).2.2, ← (Md.find_lt e2).2.2]
    exact h3.1 (e3 ▸ List.mem_map.2 ⟨q,h5,rfl⟩)
theorem met_le (h:∀ p ∈ mt,p.2=true∧(m.dev p.1).isSome=true) (hn:(mt.map (·.1)).Nodup):mt.length≤m.dv.length := by
  obtain ⟨g1,g2⟩ := zsu mt (fun p hp=>Option.isSome_iff_exists.1 (h p hp).2) hn
  rw [← g2]
  refine Nat.le_of_lt_succ (is_lt (i:=m.dv.length) g1 (fun j hj => ?_) (fun hj => ?_) (Nat.lt_succ_self _))
  · obtain ⟨q,_,h6⟩ := List.mem_filterMap.1 hj
    exact Nat.lt_succ_of_lt (Md.dev_is h6).1.1
  · obtain ⟨q,_,h6⟩ := List.mem_filterMap.1 hj
    exact Nat.lt_irrefl _ (Md.dev_is h6).1.1
theorem met_lt (h:∀ p ∈ mt,p.2=true∧(m.dev p.1).isSome=true) (hn:(mt.map (·.1)).Nodup) {n:ByteArray} {i:Nat} (hi:m.dev n=some i) (hnm:¬ MetIn mt n):mt.length < m.dv.length := by
  have h1:∀ p ∈ mt, ∃ j,m.dev p.1=some j := fun p hp=>Option.isSome_iff_exists.1 (h p hp).2
  obtain ⟨g1,g2⟩ := zsu mt h1 hn
  rw [← g2]
  refine is_lt g1 (fun j hj => ?_) (fun hj => ?_) (Md.dev_is hi).1.1
  · obtain ⟨q,_,h6⟩ := List.mem_filterMap.1 hj
    exact (Md.dev_is h6).1.1
  · obtain ⟨q,h5,h6⟩ := List.mem_filterMap.1 hj
    have e3:n=q.1 := by rw [← (Md.find_lt (Md.dev_is hi).2).2.2, ← (Md.find_lt (Md.dev_is h6).2).2.2]
    exact hnm ⟨q.2,by rw [e3]; exact h5⟩
variable {x:ByteArray} {r:List ByteArray}
theorem Bel.skip (h:Bel m k ls (x::r) mt) (hx:m.dev x=none∨MetIn mt x):Bel m k ls r mt := by
  have hq:∀ u,MetIn mt u∨u ∈ x::r∨m.dev u=none→MetIn mt u∨u ∈ r∨m.dev u=none := fun u hu=>by
    rcases hu with h1 | h1 | h1
    · exact .inl h1
    · rcases List.mem_cons.1 h1 with rfl | h1
      · rcases hx with h2 | h2
        · exact .inr (.inr h2)
        · exact .inl h2
      · exact .inr (.inl h1)
    · exact .inr (.inr h1)
  have hl := h.ql
  rw [List.length_cons] at hl
  exact ⟨fun u hu=>hq u (h.seen u hu),fun y hy=>⟨(h.clos y hy).1,fun i hi t ht hne=>hq _ ((h.clos y hy).2 i hi t ht hne)⟩,fun y hy=>h.from_ y (List.mem_cons_of_mem _ hy),h.tr,h.nd,by omega⟩
theorem Bel.meet (hO:MdOk m) (h:Bel m k ls (x::r) mt) {i:Nat} (hi:m.dev x=some i) (hne:x≠(m.at k).name) (hnm:¬ MetIn mt x):Bel m k ls (r ++ qT (m.at i) 2) (mt ++ [(x,true)]) := by
  have hin:∀ u,MetIn mt u→MetIn (mt ++ [(x,true)]) u := fun u ⟨b,hb⟩=>⟨b,List.mem_append.2 (.inl hb)⟩
  have hq:∀ u,MetIn mt u∨u ∈ x::r∨m.dev u=none→MetIn (mt ++ [(x,true)]) u∨u ∈ r ++ qT (m.at i) 2∨m.dev u=none := fun u hu=>by
    rcases hu with h1 | h1 | h1
    · exact .inl (hin u h1)
    · rcases List.mem_cons.1 h1 with rfl | h1
      · exact .inl ⟨true,by simp⟩
      · exact .inr (.inl (List.mem_append.2 (.inl h1)))
    · exact .inr (.inr h1)
  refine ⟨fun u hu=>hq u (h.seen u hu),fun y hy => ?_,fun y hy hr => ?_,fun p hp => ?_,?_,?_⟩
  · obtain ⟨b,hb⟩ := hy
    rcases List.mem_append.1 hb with hb | hb
    · exact ⟨(h.clos y ⟨b,hb⟩).1,fun j hj t ht h1=>hq _ ((h.clos y ⟨b,hb⟩).2 j hj t ht h1)⟩
    · rw [List.mem_singleton] at hb
      obtain ⟨rfl,rfl⟩ := Prod.mk.inj hb
      refine ⟨hne,fun j hj t ht h1 => ?_⟩
      rw [hi] at hj; cases hj
      exact .inr (.inl (List.mem_append.2 (.inr (qT_mem ht h1))))
  · rcases List.mem_append.1 hy with hy | hy
    · exact h.from_ y (List.mem_cons_of_mem _ hy) hr
    · obtain ⟨t,h1,rfl,h3⟩ := qT_tbl hy
      exact h.from_ x List.mem_cons_self (Md.rch_up (Md.dev_is hi).2 h1 h3 hr)
  · rcases List.mem_append.1 hp with hp | hp
    · exact h.tr p hp
    · rw [List.mem_singleton] at hp; subst hp; exact ⟨rfl,by rw [hi]; rfl⟩
  · rw [List.map_append,List.nodup_append]
    refine ⟨h.nd,by simp,fun a ha b hb he => ?_⟩
    simp at hb; subst hb
    obtain ⟨p,h1,h2⟩ := List.mem_map.1 ha
    exact hnm ⟨p.2,by rw [← he, ← h2]; exact h1⟩
  · have h1 := h.ql
    have h2 := (zbx (hO.chk i).1).1
    have h3 := (zbx (hO.chk i).2).1
    have h4 := zen (m.at i).live
    have h5 := zen (m.at i).new
    have h6:(qT (m.at i) 2).length=(tuses (m.at i).live).length + (tuses (m.at i).new).length := by show (tuses _ ++ tuses _).length=_; simp
    rw [List.length_cons] at h1
    rw [List.length_append,List.length_append,h6]
    simp; omega
theorem Bel.found (hO:MdOk m) (hk:m.isD k) (h:Bel m k ls (x::r) mt) (he:x=(m.at k).name):ls.any (fun u=>m.reach k (m.dv.length + 1) u)=true := by
  obtain ⟨u,h1,h2⟩ := h.from_ x List.mem_cons_self (Md.rch_self (by rw [he]; exact Md.at_find hO hk.1 hk.2.1))
  exact List.any_eq_true.2 ⟨u,h1,(Md.rch_eq hO).1 h2⟩
theorem Bel.none (hO:MdOk m) (hk:m.isD k) (h:Bel m k ls [] mt):ls.any (fun u=>m.reach k (m.dv.length + 1) u)=false := by
  rw [Bool.eq_false_iff]
  intro h1
  obtain ⟨u,h2,h3⟩ := List.any_eq_true.1 h1
  have := Md.closed_no hO hk (P:=MetIn mt) (fun y hy=>⟨(h.clos y hy).1,fun i hi t ht hne=>by
    rcases (h.clos y hy).2 i hi t ht hne with h4 | h4 | h4
    · exact .inl h4
    · cases h4
    · exact .inr h4⟩) (m.dv.length + 1) u (by
    rcases h.seen u h2 with h4 | h4 | h4
    · exact .inl h4
    · cases h4
    · exact .inr h4)
  rw [this] at h3; cases h3
theorem zxh {x:ByteArray} (_hn:(mt.map (·.1)).Nodup) (h:¬ MetIn mt x):setM mt x true=mt ++ [(x,true)] := by
  unfold setM
  cases hf:findE mt x 0 with
  | none=>rfl
  | some p =>
    obtain ⟨_,h1⟩ := zf2 _ _ _ _ _ (show findE mt x 0=some (p.1,p.2) from hf)
    exact absurd ⟨p.2,List.mem_of_getElem? h1⟩ h
theorem qcons (h:0 < q.length):q=q.getD 0 ByteArray.empty::q.drop 1 := by
  cases q with
  | nil=>cases h
  | cons a b=>rfl
end
theorem Reads.dropV {α:Type} {A:HP} {t:Ty α} {v:Value} {xs:List α} (hr:Reads A t v xs) (h:1≤xs.length):Reads A t (sliceV t.sz v 1 xs.length) (xs.drop 1) := by
  have := Reads.sliceV (l:=1) (h:=xs.length) hr h (Nat.le_refl _)
  rwa [List.take_length] at this
theorem tblRd {c:MH} {m:Md} {k i:Nat} (hk:m.isD k) (hi:i < 2):Reads (MapR c m) tyapi_Target (([(c.hd k).lv,(c.hd k).nw]:List Sl3).getD i s3z).v (([(m.at k).live,(m.at k).new]:List (List api_Target)).getD i []) := by
  match i,hi with
  | 0,_=>exact zcg hk
  | 1,_=>exact rdNew hk
theorem tblLn {m:Md} {k:Nat} (hO:MdOk m) (i:Nat):(([(m.at k).live,(m.at k).new]:List (List api_Target)).getD i []).length≤64 := by
  match i with
  | 0=>exact (zbx (hO.chk k).1).1
  | 1=>exact (zbx (hO.chk k).2).1
  | i + 2=>simp
theorem zvj {m:Md} {k i:Nat} (hO:MdOk m):(qT (m.at k) i).length≤128 := by
  have h2 := (zbx (hO.chk k).1).1
  have h3 := (zbx (hO.chk k).2).1
  have h4 := zen (m.at k).live
  have h5 := zen (m.at k).new
  unfold qT
  split
  · simp
  · split
    · omega
    · rw [List.length_append]; omega
theorem zy4 {W:World} {b k:Nat} {c:MH} {m:Md} {v:Sl3} {ls:List ByteArray} (hk:m.isD k) (hl:ls.length≤1000) :
    CSpec Tryz.prog W 72 [ptr b 0,ptr (c.bs k) 0,v.v] [sl tyS v.v ls,blk b 84 (za3 c m),MapR c m] (fun _:Unit => .bool (ls.any fun u=>m.reach k (m.dv.length + 1) u)) (fun _=>True) (fun _ F=>blk b 84 (za3 c m)::MapR c m::F) := by
 refine CSpec.of_body Tryz.func72 rfl Tryz.ntmps72 rfl fun F => ?_
 show CJ _ _ _ _ _ _ (_::_::_::F)
 refine zba (zb4 foc2) fun hW => ?_
 have hO := hW.ok
 have hns := Md.names_len (m:=m)
 have hln := hW.big.len
 refine sR <| oA rfl rfl <| nT <| sR <| oO <| zgi mMet rfl fun b1=>oA rfl rfl <| nT <| zad <| zas <| zbe (X:=Sl3 × List ByteArray × List (ByteArray × Bool)) [2,6,8,9,11,13,14,15,16,17,18,19,20,21,22,23,24,25,26,27,28,29,30,31,32,33,34,35,36,37,38,39,40,41,42,43,44,45,46,47,48,49,50,51,52,53,54,55] (fun ⟨rv,q,mt⟩  => ([(2,rv.v)]:Slots)) (fun ⟨rv,q,mt⟩ R=>sl tyS rv.v q::mpc mMet b1 mt::R) (fun ⟨rv,q,mt⟩  => Bel m k ls q mt) (fun ⟨rv,q,mt⟩  => (m.dv.length - mt.length) * 200 + q.length) ⟨v,ls,[]⟩ ?_ ?_ (t1_ (t0_ (t0_ (t0_ eR)))) ?_
 · exact Bel.start hl
 · exact ⟨rfl,True.intro⟩
 ·
  rintro ⟨rv,q,mt⟩ hB
  show CJ _ _ _ _ _ (([(2,rv.v)]:Slots) ++ forget _ _) (sl tyS rv.v q::mpc mMet b1 mt::_)
  have hql := hB.ql
  have hml := met_le hB.tr hB.nd
  refine zad <| sR <| oM rfl rfl <| oV (V_len rfl foc0 (Reads.sl _ _ _) Tryz.runUnderlying59) rfl <| oP (P_gtr rfl rfl) rfl <| nT ?_
  first | (refine zao rfl (fun hg1 => ?_) (fun hg1 => ?_)) | (refine zap rfl (fun hg1 => ?_) (fun hg1 => ?_)) | (refine zar rfl (fun hg1 => ?_) (fun hg1 => ?_))
  ·
   refine kT <| zas <| zad ?_
   have hB2:Bel m k ls ((q.getD 0 ByteArray.empty)::q.drop 1) mt := by
     rw [← qcons (q:=q) (by omega)]; exact hB
   have hqd:(q.drop 1).length + 1=q.length := by rw [List.length_drop]; omega
   refine zai <| oM rfl rfl ?_
   first | (refine RJ_op rfl (OJ_V (zal rfl rfl rfl (by omega) foc0 (Reads.sl _ _ _) Tryz.runUnderlying59 Tryz.sizeOf9) rfl ?_)) | (refine RJ_op rfl (OJ_V (zal rfl rfl (Int.toNat_of_nonneg (by omega)).symm (by omega) foc0 (Reads.sl _ _ _) Tryz.runUnderlying59 Tryz.sizeOf9) rfl ?_))
   refine oV (zaz rfl rfl (by omega) foc0 (Reads.sl _ _ _) rfl rfl Tryz.isAgg9) rfl <| oA rfl rfl <| nT <| sR <| oM rfl rfl <| oV (zii (l:=1) (h:=q.length) rfl foc0 (Reads.sl _ _ _) ⟨_,rfl⟩ rfl (by omega) (by omega) Tryz.underlying59 Tryz.sizeOf9) rfl <| oO <| zaq (zq6 (v:=⟨_,_,_⟩) (xs:=q.drop 1) (Reads.dropV (xs:=q) (Reads.sl _ _ _) (by omega)) (by first | assumption | omega)) rfl Tryz.call89 (Dels.cons del0 Dels.nil) rfl fun cx2 hc4=>oA rfl rfl <| nT <| zad <| sR <| oM rfl rfl <| oM rfl rfl <| oP (zaf rfl) rfl <| oP (zaa rfl ⟨_,_,_,Tryz.runUnderlying111,rfl,rfl,Tryz.sizeOf9,rfl⟩) rfl <| oV (zby (Ent.trans (t4_ eR) (zbl hk)) (zag rfl foc0 rfl Tryz.isAgg9)) rfl <| oP (zcj rfl rfl Tryz.underlying9) rfl <| nT ?_
   first | (refine zao rfl (fun hg2 => ?_) (fun hg2 => ?_)) | (refine zap rfl (fun hg2 => ?_) (fun hg2 => ?_)) | (refine zar rfl (fun hg2 => ?_) (fun hg2 => ?_))
   ·
    refine sR <| oA rfl rfl <| nT <| zaj <| zae <| zam <| zbb <| zam <| zae <| zan (res1 Tryz.results72 rfl) <| CSpec.close () ?_ ?_ (t3_ (t3_ (eD (eD (eD eR)))))
    · exact bv (Bel.found hO hk hB2 (by assumption)).symm
    · trivial
   ·
    refine kT <| zad ?_
    have hne:(q.getD 0 ByteArray.empty)≠(m.at k).name := by assumption
    refine zai <| oM rfl rfl <| oP (zaf rfl) rfl <| oP (zaa rfl ⟨_,_,_,Tryz.runUnderlying84,rfl,rfl,Tryz.sizeOf82,rfl⟩) rfl <| oV (zag rfl foc3 rfl Tryz.isAgg82) rfl <| oM rfl rfl <| oO (zeb rfl rfl foc4 rfl (fun hd6 => ?_) (fun k5 hd6 => ?_))
    ·
     refine oA rfl rfl <| nT <| sR <| oM rfl rfl <| oP (zhc rfl rfl Tryz.underlying85) rfl <| oM rfl rfl <| RJ_gn (GY_no rfl rfl rfl rfl) rfl rfl <| RJ_gn (GY_no rfl rfl rfl rfl) rfl rfl <| RJ_gn (GY_no rfl rfl rfl rfl) rfl rfl <| RJ_gn (GY_no rfl rfl rfl rfl) rfl rfl <| oP (za5 rfl rfl rfl) rfl <| nT <| zbf rfl rfl <| za8 <| zak <| za6 ⟨cx2,q.drop 1,mt⟩ (by show (m.dv.length - mt.length) * 200 + (q.drop 1).length < (m.dv.length - mt.length) * 200 + q.length; omega) ?_ (by repeat (first | exact Kp.base | exact Kp.self | refine Kp.cons rfl ?_ | refine Kp.forget rfl ?_)) ?_ (t0_ (t1_ (t1_ (t1_ (eD eR)))))
     · exact Bel.skip hB2 (.inl hd6)
     · exact ⟨rfl,True.intro⟩
    ·
     refine oA rfl rfl <| nT <| sR <| oM rfl rfl <| oP (zgj rfl rfl Tryz.underlying85) rfl <| oM rfl rfl <| gP (zab rfl rfl rfl rfl) (zah rfl) rfl <| gP (zab rfl rfl rfl rfl) (zah rfl) rfl <| gV (zab rfl rfl rfl rfl) (zip (M:=mMet) (k:=(q.getD 0 ByteArray.empty)) (out:=(fun o => .bool (o.getD false))) rfl rfl foc2 zsk Tryz.zeroValue4 (fun _=>rfl) rfl) rfl <| gP (zab rfl rfl rfl rfl) (P_not rfl) rfl <| oP (za2 rfl rfl rfl) rfl <| nT ?_
     first | (refine zao rfl (fun hg3 => ?_) (fun hg3 => ?_)) | (refine zap rfl (fun hg3 => ?_) (fun hg3 => ?_)) | (refine zar rfl (fun hg3 => ?_) (fun hg3 => ?_))
     ·
      refine zad ?_
      have hnm:¬ MetIn mt (q.getD 0 ByteArray.empty) := by
        have hz:(!(lookM mt (q.getD 0 ByteArray.empty)).getD false)=true := by assumption
        rw [zq8 hB.nd]
        intro hs9
        obtain ⟨b9,hb9⟩ := Option.isSome_iff_exists.1 hs9
        obtain ⟨i9,hi9⟩ := zj9 hb9
        have hb8 := (hB.tr _ (List.mem_of_getElem? hi9)).1
        rw [hb9] at hz
        simp only [Option.getD_some] at hz
        rw [show b9=true from hb8] at hz; cases hz
      have hmlt := met_lt hB.tr hB.nd hd6 hnm
      have hdk := (Md.dev_is hd6).1
      refine zai <| oM rfl rfl <| oM rfl rfl <| oO <| ze0 (M:=mMet) (k:=(q.getD 0 ByteArray.empty)) (v:=true) rfl rfl rfl foc2 zsk <| nT <| sR <| oM rfl rfl <| oO <| zaq (zm2 (Md.dev_is hd6).1) rfl Tryz.call63 (Dels.cons del4 Dels.nil) rfl fun _ hc8=>oV (V_len rfl foc0 (Reads.sl _ _ _) Tryz.runUnderlying119) rfl <| oM rfl rfl <| nT <| zas <| zbe (X:=Nat × Sl3) [2,11,47,48,49,50,51,52,53,54,55] (fun ⟨i,rw9⟩  => ([(47,.int .i64 (i:Nat)),(2,rw9.v)]:Slots)) (fun ⟨i,rw9⟩ R=>sl tyS rw9.v (q.drop 1 ++ qT (m.at k5) i)::R) (fun ⟨i,rw9⟩  => i≤2) (fun ⟨i,rw9⟩  => 2 - i) ⟨0,cx2⟩ ?_ ?_ (Ent.takeC del2 (congrArg (sl tyS _) (by simp [qT])) (t0_ (t0_ (t0_ (t0_ (t0_ eR)))))) ?_
      · exact Nat.zero_le _
      · exact ⟨rfl,rfl,True.intro⟩
      ·
       rintro ⟨i,rw9⟩ hi
       show CJ _ _ _ _ _ (([(47,.int .i64 (i:Nat)),(2,rw9.v)]:Slots) ++ forget _ _) (sl tyS rw9.v (q.drop 1 ++ qT (m.at k5) i)::_)
       have hn2:([(c.hd k5).lv,(c.hd k5).nw]:List Sl3).length=2 := rfl
       have hq8 := zvj (k:=k5) (i:=i) hO
       have htl := tblLn (k:=k5) hO i
       have htu := zen (([(m.at k5).live,(m.at k5).new]:List (List api_Target)).getD i [])
       refine sR <| oP (P_lss rfl rfl) rfl <| nT <| zad ?_
       first | (refine zao rfl (fun hg4 => ?_) (fun hg4 => ?_)) | (refine zap rfl (fun hg4 => ?_) (fun hg4 => ?_)) | (refine zar rfl (fun hg4 => ?_) (fun hg4 => ?_))
       ·
        refine kT <| zad <| zas <| sR ?_
        first | (refine RJ_op rfl (OJ_V (zal rfl rfl rfl (by omega) foc1 (Reads.sl _ _ _) Tryz.runUnderlying119 Tryz.sizeOf30) rfl ?_)) | (refine RJ_op rfl (OJ_V (zal rfl rfl (Int.toNat_of_nonneg (by omega)).symm (by omega) foc1 (Reads.sl _ _ _) Tryz.runUnderlying119 Tryz.sizeOf30) rfl ?_))
        refine oV (zaz rfl rfl (by omega) foc1 (Reads.sl _ _ _) rfl rfl Tryz.isAgg30) rfl <| oA rfl rfl <| nT <| zai <| oM rfl rfl <| oM rfl rfl <| oO <| zaq (zfu (tblRd hdk (by omega)) (zjk (by first | assumption | omega))) rfl Tryz.call69 (Dels.cons del2 Dels.nil) rfl fun _ hc10=>oO <| zbv (t:=tyS) (bytes:=16) rfl rfl del2 foc1 (Reads.sl _ _ _) Tryz.underlying59 zjj (by simp only [List.length_append,List.length_cons,List.length_nil,maxLen] at *; omega) (by simp only [List.length_append,List.length_cons,List.length_nil,maxLen] at *; omega) rfl fun p11 c12=>oA rfl rfl <| za0 <| zak <| zat <| zai <| oP (P_add rfl rfl (by omega)) rfl <| oM rfl rfl <| za0 <| za6 ⟨i + 1,⟨p11,_,c12⟩⟩ (by first | omega | (simp only []; omega)) ?_ (by repeat (first | exact Kp.base | exact Kp.self | refine Kp.cons rfl ?_ | refine Kp.forget rfl ?_)) ?_ (Ent.takeC del0 (congrArg (sl tyS _) (by rw [List.append_assoc,zy3 (by omega)])) (t2_ (t0_ (t1_ (t1_ (t1_ (eD eR)))))))
        · omega
        · exact ⟨rfl,rfl,True.intro⟩
       ·
        refine zbg <| zaw <| zav <| zau <| zak ?_
        obtain rfl:i=2 := by omega
        have hq9 := zvj (k:=k5) (i:=2) hO
        refine za6 ⟨rw9,q.drop 1 ++ qT (m.at k5) 2,mt ++ [((q.getD 0 ByteArray.empty),true)]⟩ (by show (m.dv.length - (mt ++ [((q.getD 0 ByteArray.empty),true)]).length) * 200 + (q.drop 1 ++ qT (m.at k5) 2).length < (m.dv.length - mt.length) * 200 + q.length; simp only [List.length_append,List.length_cons,List.length_nil]; omega) ?_ (by repeat (first | exact Kp.base | exact Kp.self | refine Kp.cons rfl ?_ | refine Kp.forget rfl ?_)) ?_ (t0_ (Ent.takeC del3 (congrArg (mpc mMet b1) (zxh hB.nd hnm)) (t3_ (t1_ (eD (eD eR))))))
        · exact Bel.meet hO hB2 hd6 hne hnm
        · exact ⟨rfl,True.intro⟩
     ·
      refine za8 <| zak <| za6 ⟨cx2,q.drop 1,mt⟩ (by show (m.dv.length - mt.length) * 200 + (q.drop 1).length < (m.dv.length - mt.length) * 200 + q.length; omega) ?_ (by repeat (first | exact Kp.base | exact Kp.self | refine Kp.cons rfl ?_ | refine Kp.forget rfl ?_)) ?_ (t0_ (t1_ (t1_ (t1_ (eD eR)))))
      ·
       refine Bel.skip hB2 <| .inr ?_
       have hz:(!(lookM mt (q.getD 0 ByteArray.empty)).getD false)=false := by assumption
       rw [zq8 hB.nd]
       cases hl:lookM mt (q.getD 0 ByteArray.empty) with
       | none=>rw [hl] at hz; cases hz
       | some b=>rfl
      · exact ⟨rfl,True.intro⟩
  ·
   refine zbg <| zaw <| zav <| zau <| zat <| sR <| oA rfl rfl <| nT <| zaj <| zan (res1 Tryz.results72 rfl) <| CSpec.close () ?_ ?_ (t2_ (t2_ (eD (eD eR))))
   ·
    obtain rfl:q=[] := List.eq_nil_of_length_eq_zero (by omega)
    exact bv (Bel.none hO hk hB).symm
   · trivial
end Go.Proofs
namespace Go.Proofs
namespace Md
section
variable {m:Md} {k:Nat} {l:List api_Target}
theorem zsv (hO:MdOk m) {n:ByteArray} {j:Nat} (h:m.find n=some j):n≠noN := by
  obtain ⟨h1,h2,_⟩ := List.findIdx?_eq_some_iff_getElem.1 h
  have e:m.at j=m.dv[j] := by simp [Md.at,List.getD,h1]
  simp only [isN,Bool.and_eq_true,Bool.not_eq_true',decide_eq_true_eq] at h2
  intro hn
  exact hO.nm j h1 (by rw [e]; exact h2.1) (by rw [e,h2.2,hn])
theorem find_at (hO:MdOk m) {i:Nat} (hi:i < m.dv.length) (hg:(m.at i).gone=false):m.find (m.at i).name=some i := by
  cases hf:m.find (m.at i).name with
  | none =>
    have := List.findIdx?_eq_none_iff.1 hf m.dv[i] (List.getElem_mem hi)
    have e:m.at i=m.dv[i] := by simp [Md.at,List.getD,hi]
    rw [← e] at this
    simp [isN,hg] at this
  | some j =>
    obtain ⟨h1,h2,_⟩ := List.findIdx?_eq_some_iff_getElem.1 hf
    have e:m.at j=m.dv[j] := by simp [Md.at,List.getD,h1]
    simp only [isN,Bool.and_eq_true,Bool.not_eq_true',decide_eq_true_eq] at h2
    rw [← e] at h2
    rw [hO.uniq j i h1 hi h2.1 hg h2.2]
theorem zvk (hO:MdOk m) (hk:m.isDx k) {m':Md} {d':Dv} (hd:m'.dv=m.dv.set k d') (hkey:key d' = key (m.at k)) (ht:∀ t ∈ tbl d',t ∈ tbl (m.at k) ∨ ¬ m.Rch k t.On):∃ rk,m'.Rank rk := by
  classical
  obtain ⟨rk,hr,hb⟩ := rank_bd hO.acy
  refine ⟨fun i=>if m.Rch k (m.at i).name then rk i + (m.dv.length + 1) else rk i,fun i hi hg t htt j hj => ?_⟩
  rw [find_key (keys_of hd hkey)] at hj
  rw [at_of hk.1 hd] at hg htt
  have hl:m'.dv.length=m.dv.length := by rw [hd]; simp
  have hne := zsv hO hj
  have hjn:(m.at j).name=t.On := by
    obtain ⟨h1,h2,_⟩ := List.findIdx?_eq_some_iff_getElem.1 hj
    have e:m.at j=m.dv[j] := by simp [Md.at,List.getD,h1]
    simp only [isN,Bool.and_eq_true,Bool.not_eq_true',decide_eq_true_eq] at h2
    rw [e]; exact h2.2
  have hbj := hb j
  show (if m.Rch k (m.at j).name then rk j + (m.dv.length + 1) else rk j) < (if m.Rch k (m.at i).name then rk i + (m.dv.length + 1) else rk i)
  rw [hjn]
  by_cases e:i=k
  · subst e
    rw [if_pos rfl] at hg htt
    rw [if_pos (c:=m.Rch i (m.at i).name) (rch_self (find_at hO hk.1 hk.2.1))]
    rcases ht t htt with h | h
    · have := hr i hk.1 hk.2.1 t h j hj
      split <;> omega
    · rw [if_neg h]; omega
  · rw [if_neg e] at hg htt
    have := hr i (by omega) hg t htt j hj
    by_cases h:m.Rch k t.On
    · have hi2:m.Rch k (m.at i).name := rch_up (find_at hO (by omega) hg) htt hne h
      rw [if_pos h,if_pos hi2]; omega
    · rw [if_neg h]
      split <;> omega
theorem ok_load (hO:MdOk m) (hk:m.isDx k) (hc:chk l=0) (hn:∀ t ∈ l,t.On≠noN→(m.find t.On).isSome=true) (hr:∀ t ∈ l,t.On≠noN→m.reach k (m.dv.length + 1) t.On=false):MdOk (m.set k { m.at k with new := l,hn := true }) := by
  refine hO.set hk rfl rfl hk.2.2 ⟨(hO.chk k).1,hc⟩ (fun t ht hne => ?_) (zvk hO hk rfl rfl fun t ht => ?_) (hO.hl k) (fun h=>by cases h) (fun w hw=>(hO.org k hk.1 w hw).2)
  · rcases List.mem_append.1 ht with h | h
    · exact hO.nam k hk.1 hk.2.1 t (List.mem_append.2 (.inl h)) hne
    · exact hn t h hne
  · rcases List.mem_append.1 ht with h | h
    · exact .inl (List.mem_append.2 (.inl h))
    · right
      intro h2
      by_cases hne:t.On=noN
      · obtain ⟨f,h3⟩ := h2
        have hf:m.find t.On=none := by
          cases hf:m.find t.On with
          | none=>rfl
          | some j=>exact absurd hne (zsv hO hf)
        rw [reach_none hf] at h3; cases h3
      · rw [rch_eq hO,hr t h hne] at h2; cases h2
theorem any_tuses {p:ByteArray→Bool} : (tuses l).any p=l.any fun t=>decide (t.On≠noN) && p t.On := by
  rw [Bool.eq_iff_iff,List.any_eq_true,List.any_eq_true]
  constructor
  · rintro ⟨n,h1,h2⟩
    obtain ⟨t,h3,rfl,h5⟩ := nam_tuses.1 h1
    exact ⟨t,h3,by rw [h2]; simpa using h5⟩
  · rintro ⟨t,h1,h2⟩
    rw [Bool.and_eq_true] at h2
    exact ⟨t.On,nam_tuses.2 ⟨t,h1,rfl,by simpa using h2.1⟩,h2.2⟩
end
end Md
end Go.Proofs
set_option linter.unusedSimpArgs false
set_option maxRecDepth 20000
namespace Go.Proofs
open Go.VG
theorem zvl {m:Md} {l:List api_Target} (h:((tuses l).any fun x=>ldT m x)=false) {t:api_Target} (ht:t ∈ l) (hne:t.On≠noN):(m.find t.On).isSome=true := by
  have h2 := List.any_eq_false.1 h t.On (nam_tuses.2 ⟨t,ht,rfl,hne⟩)
  unfold ldT at h2
  rw [Md.memS_find] at h2
  cases hs:(m.find t.On).isSome with
  | true=>rfl
  | false=>rw [hs] at h2; exact absurd rfl h2
theorem zox {m:Md} {l:List api_Target} : ((tuses l).any fun x=>ldT m x)=l.any fun t=>decide (t.On≠noN) && (m.find t.On).isNone := by
  rw [Md.any_tuses]
  congr 1; funext t
  unfold ldT
  rw [Md.memS_find]
  cases m.find t.On <;> rfl
theorem zpm {m:Md} {k:Nat} {l:List api_Target} : ((tuses l).any fun x=>m.reach k (m.dv.length + 1) x)=l.any fun t=>decide (t.On≠noN) && m.reach k (m.dv.length + 1) t.On := Md.any_tuses
theorem zxi {m:Md} {k:Nat} {l:List api_Target} (h:((tuses l).any fun x=>m.reach k (m.dv.length + 1) x)=false) {t:api_Target} (ht:t ∈ l) (hne:t.On≠noN):m.reach k (m.dv.length + 1) t.On=false := by
  have h2 := List.any_eq_false.1 h t.On (nam_tuses.2 ⟨t,ht,rfl,hne⟩)
  simpa using h2
section
variable {m:Md} {k:Nat} {n:ByteArray} {l:List api_Target}
theorem zxj (h:m.dev n=none):m.ldE n l=12∧m.ldS n l=m := by unfold Md.ldE Md.ldS; rw [h]; exact ⟨rfl,rfl⟩
theorem zn7 (h:m.ldE n l≠0):m.ldS n l=m := by
  unfold Md.ldS
  cases m.dev n with
  | none=>rfl
  | some k=>show (if _ then _ else _)=_; rw [if_neg h]
theorem zy5 (h:m.dev n=some k) (h1:chk l≠0):m.ldE n l=chk l := by unfold Md.ldE; rw [h]; show (if _ then _ else _)=_; rw [if_pos h1]
theorem zxk (h:m.dev n=some k) (h1:chk l=0) (h2:((tuses l).any fun x=>ldT m x)=true):m.ldE n l=12 := by
  rw [zox] at h2
  unfold Md.ldE; rw [h]; show (if _ then _ else _)=_; rw [if_neg (by simp [h1]),if_pos h2]
theorem zvm (h:m.dev n=some k) (h1:chk l=0) (h2:((tuses l).any fun x=>ldT m x)=false) (h3:((tuses l).any fun x=>m.reach k (m.dv.length + 1) x)=true):m.ldE n l=21 := by
  rw [zox] at h2
  rw [zpm] at h3
  unfold Md.ldE; rw [h]; show (if _ then _ else _)=_; rw [if_neg (by simp [h1]),if_neg (by rw [h2]; decide),if_pos h3]
theorem zq9 (h:m.dev n=some k) (h1:chk l=0) (h2:((tuses l).any fun x=>ldT m x)=false) (h3:((tuses l).any fun x=>m.reach k (m.dv.length + 1) x)=false):m.ldE n l=if m.fits l then 0 else 1 := by
  rw [zox] at h2
  rw [zpm] at h3
  unfold Md.ldE; rw [h]; show (if _ then _ else _)=_; rw [if_neg (by simp [h1]),if_neg (by rw [h2]; decide),if_neg (by rw [h3]; decide)]
theorem ldS_ok (h:m.dev n=some k) (h1:m.ldE n l=0):m.ldS n l=m.set k { m.at k with new := l,hn := true } := by
  unfold Md.ldS; rw [h]; show (if _ then _ else _)=_; rw [if_pos h1]
end
theorem zy6 {W:World} {b q:Nat} {c:MH} {m:Md} {x:ByteArray} :
    CSpec Tryz.prog W 71 [.string x,ptr q 0] [blk q 25 [ptr b 0],blk b 84 (za3 c m),MapR c m] (fun _:Unit => .bool (ldT m x)) (fun _=>True) (fun _ F=>blk q 25 [ptr b 0]::blk b 84 (za3 c m)::MapR c m::F) := by
 refine CSpec.of_body Tryz.func71 rfl Tryz.ntmps71 rfl fun F => ?_
 show CJ _ _ _ _ _ _ (_::_::_::F)
 refine zba (zb4 foc2) fun hW => ?_
 have hO := hW.ok
 have hns := Md.names_len (m:=m)
 have hln := hW.big.len
 refine sR <| oA rfl rfl <| nT <| sR <| oV (zag rfl foc0 rfl Tryz.isAgg25) rfl <| oP (zaf rfl) rfl <| oP (zaa rfl ⟨_,_,_,Tryz.runUnderlying84,rfl,rfl,Tryz.sizeOf59,rfl⟩) rfl <| oV (zag rfl foc1 rfl Tryz.isAgg59) rfl <| oM rfl rfl <| oO <| zaq (zcb rdOrd (zem (by first | assumption | omega))) rfl Tryz.call56 (Dels.cons del2 Dels.nil) rfl fun _ hc1=>oP (P_not rfl) rfl <| oA rfl rfl <| nT <| zaj <| zan (res1 Tryz.results71 rfl) <| CSpec.close () ?_ ?_ (t1_ (t1_ (t0_ eR)))
 · exact bv (by unfold ldT; rfl)
 · trivial
theorem zy7 {W:World} {b q:Nat} {c:MH} {m:Md} {v:Value} {xs:List ByteArray} {RA:HP} (hR:Reads RA tyS v xs) (hl:xs.length≤100000000) :
    CSpec Tryz.prog W 96 [v,.func (.func 71) #[] #[ptr q 0]] [RA,blk q 25 [ptr b 0],blk b 84 (za3 c m),MapR c m] (fun r:Int => .int .i64 r) (fun r=>(0≤r↔(xs.any fun x=>ldT m x)=true)) (fun _ F=>RA::blk q 25 [ptr b 0]::blk b 84 (za3 c m)::MapR c m::F) := by
 refine CSpec.of_body Tryz.func96 rfl Tryz.ntmps96 rfl fun F => ?_
 show CJ _ _ _ _ _ _ (_::_::_::_::F)
 refine sR <| oA rfl rfl <| nT <| zad <| sR <| oM rfl rfl <| oV (V_len rfl foc0 hR Tryz.runUnderlying59) rfl <| oM rfl rfl <| nT <| zas <| zbe (X:=Nat) [4,5,8,9,10,11,12,13,14,15,16,17,18] (fun i  => ([(8,.int .i64 (i:Nat))]:Slots)) (fun i R=>R) (fun i  => i≤xs.length∧((xs.take i).any fun x=>ldT m x)=false) (fun i  => xs.length - i) (0) ?_ ?_ (t0_ (t0_ (t0_ (t0_ eR)))) ?_
 · exact ⟨Nat.zero_le _,by simp⟩
 · exact ⟨rfl,True.intro⟩
 ·
  intro i hpf
  obtain ⟨hi,hno⟩ := hpf
  show CJ _ _ _ _ _ (([(8,.int .i64 (i:Nat))]:Slots) ++ forget _ _) (_)
  have hmem:i < xs.length→xs.getD i tyS.dflt ∈ xs := fun h=>zb9 _ h
  refine sR <| oP (P_lss rfl rfl) rfl <| nT <| zad ?_
  first | (refine zao rfl (fun hg1 => ?_) (fun hg1 => ?_)) | (refine zap rfl (fun hg1 => ?_) (fun hg1 => ?_)) | (refine zar rfl (fun hg1 => ?_) (fun hg1 => ?_))
  ·
   refine kT <| zad <| zas <| sR <| oM rfl rfl <| oA rfl rfl <| nT <| sR <| oM rfl rfl <| oM rfl rfl <| oM rfl rfl ?_
   first | (refine RJ_op rfl (OJ_V (zal rfl rfl rfl (by omega) foc0 hR Tryz.runUnderlying59 Tryz.sizeOf9) rfl ?_)) | (refine RJ_op rfl (OJ_V (zal rfl rfl (Int.toNat_of_nonneg (by omega)).symm (by omega) foc0 hR Tryz.runUnderlying59 Tryz.sizeOf9) rfl ?_))
   refine oV (zaz rfl rfl (by omega) foc0 hR rfl rfl Tryz.isAgg9) rfl <| oO <| zdh rfl rfl (zy6) Tryz.call71 (Dels.cons del1 (Dels.cons del1 (Dels.cons del1 Dels.nil))) rfl fun _ hc1=>nT ?_
   first | (refine zao rfl (fun hg2 => ?_) (fun hg2 => ?_)) | (refine zap rfl (fun hg2 => ?_) (fun hg2 => ?_)) | (refine zar rfl (fun hg2 => ?_) (fun hg2 => ?_))
   ·
    refine sR <| oM rfl rfl <| oA rfl rfl <| nT <| zaj <| zam <| zae <| zbb <| zam <| zae <| zan (res1 Tryz.results96 rfl) <| CSpec.close (i:Int) ?_ ?_ (t3_ (t0_ (t0_ (t0_ eR))))
    · rfl
    · exact ⟨fun _=>List.any_eq_true.2 ⟨_,hmem (by omega),by assumption⟩,fun _=>by omega⟩
   ·
    refine za8 <| zak <| zat <| zai <| oP (P_add rfl rfl (by omega)) rfl <| oM rfl rfl <| za0 <| za6 (i + 1) (by first | omega | (simp only []; omega)) ?_ (by repeat (first | exact Kp.base | exact Kp.self | refine Kp.cons rfl ?_ | refine Kp.forget rfl ?_)) ?_ (t3_ (t0_ (t0_ (t0_ eR))))
    ·
     refine ⟨by omega,?_⟩
     rw [takeD tyS.dflt (by omega),List.any_append,hno,List.any_cons,List.any_nil,Bool.or_false,Bool.false_or]
     show ldT m (xs.getD i tyS.dflt)=false
     assumption
    · exact ⟨rfl,True.intro⟩
  ·
   refine zbg <| zaw <| zav <| zau <| zat <| sR <| oA rfl rfl <| nT <| zaj <| zan (res1 Tryz.results96 rfl) <| CSpec.close (-1) ?_ ?_ (t0_ (t0_ (t0_ (t0_ eR))))
   · rfl
   ·
    obtain rfl:i=xs.length := by omega
    rw [List.take_length] at hno
    rw [hno]; simp
theorem zy8 {W:World} {b q:Nat} {c:MH} {m:Md} {v:Value} {xs:List ByteArray} {RA:HP} (hR:Reads RA tyS v xs) (hl:xs.length≤100000000) :
    CSpec Tryz.prog W 70 [v,.func (.func 71) #[] #[ptr q 0]] [RA,blk q 25 [ptr b 0],blk b 84 (za3 c m),MapR c m] (fun _:Unit =>   .bool (xs.any fun x=>ldT m x)) (fun _=>True) (fun _ F=>RA::blk q 25 [ptr b 0]::blk b 84 (za3 c m)::MapR c m::F) := by
 refine CSpec.of_body Tryz.func70 rfl Tryz.ntmps70 rfl fun F => ?_
 show CJ _ _ _ _ _ _ (_::_::_::_::F)
 refine sR <| oA rfl rfl <| nT <| sR <| oM rfl rfl <| oM rfl rfl <| oO <| zaq (zy7 hR hl) rfl Tryz.call96 (Dels.cons del0 (Dels.cons del0 (Dels.cons del0 (Dels.cons del0 Dels.nil)))) rfl fun r hr=>oP (P_geq rfl rfl) rfl <| oA rfl rfl <| nT <| zaj <| zan (res1 Tryz.results70 rfl) <| CSpec.close () ?_ ?_ (t0_ (t0_ (t0_ (t0_ eR))))
 · exact bv (by rw [Bool.eq_iff_iff,decide_eq_true_iff]; exact hr)
 · trivial
theorem c_Load {W:World} {b:Nat} {c:MH} {m:Md} {n:ByteArray} {A:HP} {v:Sl3} {l:List api_Target} (hA:Reads A tyapi_Target v.v l) (hl:l.length≤100000000) :
    CSpec Tryz.prog W 28 [ptr b 0,.string n,v.v] [blk b 84 (za3 c m),MapR c m,A] (fun _:MH => .int .i64 (m.ldE n l)) (fun _=>True) (fun c2 F=>blk b 84 (za3 c2 (m.ldS n l))::MapR c2 (m.ldS n l)::A::F) := by
 refine CSpec.of_body Tryz.func28 rfl Tryz.ntmps28 rfl fun F => ?_
 show CJ _ _ _ _ _ _ (_::_::_::F)
 refine zba (zb4 foc1) fun hW => ?_
 have hO := hW.ok
 have hns := Md.names_len (m:=m)
 have hln := hW.big.len
 refine sR <| oO <| O_box rfl rfl rfl fun b1=>oA rfl rfl <| nT <| sR <| oV (zag rfl foc0 rfl Tryz.isAgg25) rfl <| oP (zaf rfl) rfl <| oP (zaa rfl ⟨_,_,_,Tryz.runUnderlying84,rfl,rfl,Tryz.sizeOf82,rfl⟩) rfl <| oV (zag rfl foc1 rfl Tryz.isAgg82) rfl <| oM rfl rfl <| oO (zeb rfl rfl foc2 rfl (fun hd3 => ?_) (fun k2 hd3 => ?_))
 ·
  refine oA rfl rfl <| nT <| zad <| sR <| oM rfl rfl <| oP (zgk rfl rfl Tryz.underlying85) rfl <| nT <| zbk rfl rfl <| sR <| oA rfl rfl <| nT <| zaj <| zae <| zan (res1 Tryz.results28 rfl) ?_
  have e1:m.ldE n l=12∧m.ldS n l=m := zxj hd3
  have e2 := e1.2
  rw [e2]
  refine CSpec.close c ?_ ?_ (t1_ (t1_ (t1_ (eD eR))))
  · rw [e1.1]
  · trivial
 ·
  refine oA rfl rfl <| nT <| zad <| sR <| oM rfl rfl <| oP (zd3 rfl rfl Tryz.underlying85) rfl <| nT <| zbf rfl rfl <| kT <| zad <| zad ?_
  have hdk := Md.dev_is hd3
  refine zai <| oM rfl rfl <| oO <| zaq (zhx hA zmx) rfl Tryz.call68 (Dels.cons del3 Dels.nil) rfl fun _ hc4=>oA rfl rfl <| nT <| sR <| oM rfl rfl <| oP (P_neq rfl rfl) rfl <| nT ?_
  first | (refine zao rfl (fun hg1 => ?_) (fun hg1 => ?_)) | (refine zap rfl (fun hg1 => ?_) (fun hg1 => ?_)) | (refine zar rfl (fun hg1 => ?_) (fun hg1 => ?_))
  ·
   refine sR <| oM rfl rfl <| oA rfl rfl <| nT <| zaj <| zae <| zan (res1 Tryz.results28 rfl) ?_
   have e1:m.ldE n l=chk l∧m.ldS n l=m := by
     have e3:m.ldE n l=chk l := zy5 hd3 (by assumption)
     exact ⟨e3,zn7 (by rw [e3]; assumption)⟩
   have e2 := e1.2
   rw [e2]
   refine CSpec.close c ?_ ?_ (t2_ (t2_ (t0_ (eD eR))))
   · rw [e1.1]
   · trivial
  ·
   refine kT <| zad ?_
   have hck:chk l=0 := by simpa using (show ¬ chk l≠0 by assumption)
   have hcl := (zbx hck).1
   have htu := zen l
   refine zai <| oM rfl rfl <| oO <| zaq (zfu hA (zjk (by first | assumption | omega))) rfl Tryz.call69 (Dels.cons del0 Dels.nil) rfl fun _ hc6=>oA rfl rfl <| nT <| zad <| zas <| sR <| oM rfl rfl <| oP (zb0 rfl rfl) rfl <| oO <| zaq (zy8 (Reads.sl _ _ _) (by omega)) rfl Tryz.call70 (Dels.cons del1 (Dels.cons del1 (Dels.cons del1 (Dels.cons del1 Dels.nil)))) rfl fun _ hc7=>oA rfl rfl <| nT ?_
   first | (refine zao rfl (fun hg2 => ?_) (fun hg2 => ?_)) | (refine zap rfl (fun hg2 => ?_) (fun hg2 => ?_)) | (refine zar rfl (fun hg2 => ?_) (fun hg2 => ?_))
   ·
    refine sR <| oA rfl rfl <| nT <| zaj <| zam <| zae <| zan (res1 Tryz.results28 rfl) ?_
    have e1:m.ldE n l=12∧m.ldS n l=m := by
      have e3:m.ldE n l=12 := zxk hd3 hck (by assumption)
      exact ⟨e3,zn7 (by rw [e3]; decide)⟩
    have e2 := e1.2
    rw [e2]
    refine CSpec.close c ?_ ?_ (t2_ (t2_ (t2_ (eD (eD eR)))))
    · rw [e1.1]
    · trivial
   ·
    refine zad ?_
    have hnT:((tuses l).any fun x=>ldT m x)=false := by assumption
    refine zai <| oV (zag rfl foc1 rfl Tryz.isAgg25) rfl <| oM rfl rfl <| oM rfl rfl <| oO <| zaq (zy4 (v:=⟨_,_,_⟩) (ls:=tuses l) hdk.1 (by omega)) rfl Tryz.call72 (Dels.cons del0 (Dels.cons del1 (Dels.cons del1 Dels.nil))) rfl fun _ hc8=>oA rfl rfl <| nT ?_
    first | (refine zao rfl (fun hg3 => ?_) (fun hg3 => ?_)) | (refine zap rfl (fun hg3 => ?_) (fun hg3 => ?_)) | (refine zar rfl (fun hg3 => ?_) (fun hg3 => ?_))
    ·
     refine sR <| oA rfl rfl <| nT <| zaj <| zam <| zae <| zan (res1 Tryz.results28 rfl) ?_
     have e1:m.ldE n l=21∧m.ldS n l=m := by
       have e3:m.ldE n l=21 := zvm hd3 hck hnT (by assumption)
       exact ⟨e3,zn7 (by rw [e3]; decide)⟩
     have e2 := e1.2
     rw [e2]
     refine CSpec.close c ?_ ?_ (t0_ (t0_ (t1_ (eD eR))))
     · rw [e1.1]
     · trivial
    ·
     refine zad ?_
     have hnR:((tuses l).any fun u=>m.reach k2 (m.dv.length + 1) u)=false := by assumption
     refine zai <| oV (zag rfl foc2 rfl Tryz.isAgg25) rfl <| oM rfl rfl <| oO <| zaq (c_fits hA (by omega) (fun x hx=>⟨fun hne=>zvl hnT hx hne,zej hck hx⟩)) rfl Tryz.call73 (Dels.cons del3 (Dels.cons del0 (Dels.cons del0 Dels.nil))) rfl fun _ hc9=>oP (P_not rfl) rfl <| oA rfl rfl <| nT ?_
     first | (refine zao rfl (fun hg4 => ?_) (fun hg4 => ?_)) | (refine zap rfl (fun hg4 => ?_) (fun hg4 => ?_)) | (refine zar rfl (fun hg4 => ?_) (fun hg4 => ?_))
     ·
      refine sR <| oA rfl rfl <| nT <| zaj <| zam <| zae <| zan (res1 Tryz.results28 rfl) ?_
      have e1:m.ldE n l=1∧m.ldS n l=m := by
        have e3:m.ldE n l=1 := by rw [zq9 hd3 hck hnT hnR,show m.fits l=false by simp_all]; rfl
        exact ⟨e3,zn7 (by rw [e3]; decide)⟩
      have e2 := e1.2
      rw [e2]
      refine CSpec.close c ?_ ?_ (t1_ (t1_ (t0_ (eD eR))))
      · rw [e1.1]
      · trivial
     ·
      refine za8 <| zak <| zat <| zad <| zbd (Ent.trans (t2_ eR) (zbl hdk.1)) <| zai <| oM rfl rfl <| oM rfl rfl <| oM rfl rfl <| oO <| zaq (zm5 hA (by first | assumption | omega)) rfl Tryz.call74 (Dels.cons del5 Dels.nil) rfl fun cx10 hc12=>oP (zaf rfl) rfl <| oP (zaa rfl ⟨_,_,_,Tryz.runUnderlying111,rfl,rfl,Tryz.sizeOf30,rfl⟩) rfl <| oO <| zbh rfl rfl foc2 rfl rfl Tryz.sizeOf30 <| oP (zaf rfl) rfl <| oP (zaa rfl ⟨_,_,_,Tryz.runUnderlying111,rfl,rfl,Tryz.sizeOf4,rfl⟩) rfl <| oO <| zbh rfl rfl foc2 rfl rfl Tryz.sizeOf4 <| nT <| sR <| oA rfl rfl <| nT <| zaj <| zan (res1 Tryz.results28 rfl) ?_
      have e0:m.ldE n l=0 := by rw [zq9 hd3 hck hnT hnR,show m.fits l=true by simp_all]; rfl
      have e1 := ldS_ok hd3 e0
      rw [e1]
      refine CSpec.close (c.put k2 { c.hd k2 with nw := cx10 } { m.at k2 with new := l,hn := true }) ?_ ?_ (Ent.trans (Ent.trans (t2_ (t2_ (t0_ (t2_ (t2_ eR))))) (zeo (h' := { c.hd k2 with nw := cx10 }) (d' := { m.at k2 with new := l,hn := true }) (m' := (m.set k2 { m.at k2 with new := l,hn := true })) hW hdk.1 rfl hdk.1.2.2 rfl rfl rfl (Md.ok_load hO hdk.1 hck (fun t ht hne=>zvl hnT ht hne) (fun t ht hne=>zxi hnR ht hne)) (hW.big.set hdk.1.1 rfl (hW.big.wl _) hW.big.tks hW.big.told hW.big.wr) rfl rfl)) (t3_ (t0_ (t0_ (eD (eD eR))))))
      · rw [e0]
      · trivial
end Go.Proofs
namespace Go.Proofs
namespace Md
def push (m:Md) (d:Dv):Md := { m with dv := m.dv ++ [d] }
section
variable {m:Md} {d:Dv} {n:ByteArray} {i:Nat}
theorem at_push:(m.push d).at i=if i=m.dv.length then d else m.at i := by
  show (m.dv ++ [d]).getD i Dv.z=_
  by_cases h:i < m.dv.length
  · rw [if_neg (by omega)]; simp [List.getD,List.getElem?_append_left h,Md.at]
  · by_cases e:i=m.dv.length
    · subst e; rw [if_pos rfl]; simp [List.getD]
    · rw [if_neg e,at_out h]; simp [List.getD,List.getElem?_eq_none (show (m.dv ++ [d]).length≤i by simp; omega)]
theorem push_len:(m.push d).dv.length=m.dv.length + 1 := by show (m.dv ++ [d]).length=_; simp
theorem find_push (hg:d.gone=false) (hf:m.find d.name=none):(m.push d).find n=if n=d.name then some m.dv.length else m.find n := by
  unfold find
  show (m.dv ++ [d]).findIdx? _=_
  rw [List.findIdx?_append]
  by_cases e:n=d.name
  · subst e
    rw [if_pos rfl]
    unfold find at hf
    rw [hf]
    have:isN d d.name=true := by simp [isN,hg]
    simp [List.findIdx?_cons,this]
  · rw [if_neg e]
    have:isN d n=false := by simp [isN,Ne.symm e]
    simp [List.findIdx?_cons,this]
theorem find_lt0 (h:m.find n=some i):i < m.dv.length := (List.findIdx?_eq_some_iff_getElem.1 h).1
theorem names_push (hg:d.gone=false):(m.push d).names=m.names ++ [d.name] := by
  unfold names push
  rw [List.filter_append,List.map_append]
  simp [hg]
theorem dev_push (hg:d.gone=false) (hf:m.find d.name=none):(m.push d).dev n=if n=d.name then (if d.isB then none else some m.dv.length) else m.dev n := by
  unfold dev
  rw [find_push hg hf]
  by_cases e:n=d.name
  · rw [if_pos e,if_pos e,Option.bind_some,at_push,if_pos rfl]
  · rw [if_neg e,if_neg e]
    cases h:m.find n with
    | none=>rfl
    | some i=>rw [Option.bind_some,Option.bind_some,at_push,if_neg (c:=i=m.dv.length) (by have := find_lt0 h; omega)]
end
end Md
open Md in
theorem MdOk.push {m:Md} {d:Dv} (hO:MdOk m) (hg:d.gone=false) (hn:d.name≠noN) (hf:m.find d.name=none) (hl:d.live=[]) (hw0:d.new=[]) (hwt:d.wait=[]) (hhl:d.hl=false) (hhn:d.hn=false) (hs:d.susp=false) (hb:d.base.length≤65536):MdOk (m.push d) := by
  have hcase:∀ i,i < (m.push d).dv.length→i=m.dv.length∨i < m.dv.length := fun i hi=>by rw [push_len] at hi; omega
  have hno:∀ i,i < m.dv.length→(m.at i).gone=false→(m.at i).name≠d.name := fun i hi hgi e=>by
    have := find_at hO hi hgi
    rw [e,hf] at this; cases this
  have hfi:∀ n j,(m.find n).isSome=true→(m.push d).find n=some j→m.find n=some j := fun n j h1 h2=>by
    rw [find_push hg hf] at h2
    by_cases e:n=d.name
    · rw [e,hf] at h1; cases h1
    · rwa [if_neg e] at h2
  refine ⟨fun i j hi hj hgi hgj he => ?_,fun i hi hgi => ?_,fun i => ?_,fun i hi hgi t ht hne => ?_,?_,fun i hi => ?_,fun i => ?_,fun i => ?_,fun i hi w hw => ?_⟩
  · rw [at_push] at hgi he
    rw [at_push] at hgj
    rw [at_push (i:=j)] at he
    rcases hcase i hi with rfl | h1 <;> rcases hcase j hj with rfl | h2
    · rfl
    · rw [if_neg (by omega)] at hgj
      rw [if_pos rfl,if_neg (by omega)] at he
      exact absurd he.symm (hno j h2 hgj)
    · rw [if_neg (by omega)] at hgi
      rw [if_neg (by omega),if_pos rfl] at he
      exact absurd he (hno i h1 hgi)
    · rw [if_neg (by omega)] at hgi hgj
      rw [if_neg (by omega),if_neg (by omega)] at he
      exact hO.uniq i j h1 h2 hgi hgj he
  · rw [at_push] at hgi ⊢
    rcases hcase i hi with rfl | h1
    · rw [if_pos rfl]; exact hn
    · rw [if_neg (by omega)] at hgi ⊢; exact hO.nm i h1 hgi
  · rw [at_push]; split
    · rw [hl,hw0]; exact ⟨rfl,rfl⟩
    · exact hO.chk i
  · rw [at_push] at hgi ht
    rcases hcase i hi with rfl | h1
    · rw [if_pos rfl] at ht
      unfold tbl at ht; rw [hl,hw0] at ht; cases ht
    · rw [if_neg (by omega)] at hgi ht
      have h2 := hO.nam i h1 hgi t ht hne
      rw [find_push hg hf]
      split
      · rfl
      · exact h2
  · obtain ⟨rk,hr⟩ := hO.acy
    refine ⟨rk,fun i hi hgi t ht j hj => ?_⟩
    rw [at_push] at hgi ht
    rcases hcase i hi with rfl | h1
    · rw [if_pos rfl] at ht
      unfold tbl at ht; rw [hl,hw0] at ht; cases ht
    · rw [if_neg (by omega)] at hgi ht
      by_cases hne:t.On=noN
      · rw [find_push hg hf,if_neg (fun e=>hn (by rw [← e,hne]))] at hj
        exact hr i h1 hgi t ht j hj
      · exact hr i h1 hgi t ht j (hfi _ _ (hO.nam i h1 hgi t ht hne) hj)
  · rw [at_push] at hi ⊢
    split at hi
    · rename_i e; rw [if_pos e]; exact ⟨hl,hw0,hwt,hhl,hhn,hs,hb⟩
    · rename_i e; rw [if_neg e]; exact hO.bas i hi
  · rw [at_push]; split
    · exact fun _=>hl
    · exact hO.hl i
  · rw [at_push]; split
    · exact fun _=>hw0
    · exact hO.hn i
  · rw [at_push] at hw ⊢
    rcases hcase i hi with rfl | h1
    · rw [if_pos rfl,hwt] at hw; cases hw
    · rw [if_neg (by omega)] at hw ⊢
      obtain ⟨g1,g2,g3,g4,g5⟩ := hO.org i h1 w hw
      refine ⟨g1,by rw [push_len]; omega,?_,?_,g5⟩
      · rw [at_push,if_neg (by omega)]; exact g3
      · rw [at_push,if_neg (by omega)]; exact g4
theorem MdBig.push {m:Md} {d:Dv} (h:MdBig m) (hl:m.dv.length + 1≤10000) (hw:d.wait=[]):MdBig (m.push d) :=
  ⟨by rw [Md.push_len]; exact hl,fun i=>by rw [Md.at_push]; split; · rw [hw]; exact Nat.zero_le _
                                           · exact h.wl i,h.tks,h.told,h.wr⟩
theorem MdBd.push_tick {m:Md} {d:Dv} (h:MdBd m) (hc:m.cl < 4000) (hw:d.wait=[]):MdBd (m.push d).tick := by
  have h1 := h.tks; have h2 := h.told; have h3 := h.wr; have h4 := h.len
  have h5:(m.push d).wsum=m.wsum := by
    show ((m.dv ++ [d]).map fun d=>d.wait.length).sum=_
    rw [List.map_append,List.sum_append,List.map_cons,hw]
    simp [Md.wsum]
  exact ⟨by show (m.push d).wsum≤m.tks; rw [h5]; exact h.wl,Nat.le_succ_of_le h1,Nat.le_trans h2 (by show _≤4000 * (m.cl + 1); omega),Nat.le_trans h3 (by show _≤4000 * (m.cl + 1); omega),by
    show (m.push d).dv.length≤m.cl + 1 + 2
    rw [Md.push_len]; omega,hc⟩
end Go.Proofs
set_option linter.unusedSimpArgs false
set_option maxRecDepth 20000
namespace Go.Proofs
open Go.VG
theorem zm7 (v0:ByteArray):zbt Tryz.prog 59 1 [(0,.string v0)] 9 [.string v0] := fun w=>by kernel_rfl
theorem zm8 (v0:ByteArray):∀ w,(Instr.build 111 (#[(0,.string v0)]:Array (Nat × Value))).run Tryz.prog w = .ok (.agg #[.string v0,.slice none 0 0,.slice none 0 0,.bool false,.bool false,.bool false,.bool false,.slice none 0 0]) w := fun w=>by kernel_rfl
theorem blk_ne {b b':Nat} {T T':TypeId} {cs cs':List Value} {R:List HP} {h:PH} (hh:stars (blk b T cs::blk b' T' cs' :: R) h):b≠b' := by
  rintro rfl
  obtain ⟨a1,a2,d1,e1,p1,b1,b2,d2,e2,p2,q2⟩ := hh
  have h1:a1 b=some (.cells cs.toArray T (0,0),false) := by rw [show a1=PH.one b _ from p1]; simp [PH.one]
  have h2:a2 b=some (.cells cs'.toArray T' (0,0),false) := by rw [e2]; show (b1 b).or (b2 b)=_; rw [show b1=PH.one b _ from p2]; simp [PH.one]
  rcases d1 b with h | h | ⟨h,o,ho⟩
  · rw [h1] at h; cases h
  · rw [h2] at h; cases h
  · rw [h1] at ho; cases ho
theorem zm9 {B1 B2 B3 B4:HP} {R:List HP} {h:PH} (hh:stars (B1::B2::B3::B4::R) h):stars (star [B1,B2,B3,B4]::R) h := stars_star.2 hh
section
variable {X:HP} {c:MH} {m:Md} {R:List HP} {d:Dv} {h:DH} {ov:Sl3} {dl bl:List (ByteArray × Nat)}
theorem zsw {a:Nat} {bs bs':Nat→Nat} {x:DH × Dv} (hx:∀ w ∈ x.2.wait,bs' w.gv=bs w.gv):DevC a bs' x=DevC a bs x := by
  have e:x.2.wait.map (wC bs')=x.2.wait.map (wC bs) := List.map_congr_left fun w hw=>by unfold wC; rw [hx w hw]
  unfold DevC; rw [e]
theorem Own_bs {a:Nat} {bs':Nat→Nat} (hW:MapWF c m) (hb:∀ i,i < m.dv.length→bs' i=c.bs i):Go.VG.Own (DevC a bs') c.l=Go.VG.Own (DevC a c.bs) c.l := by
  unfold Go.VG.Own
  rw [List.map_congr_left fun x hx => ?_]
  obtain ⟨i,hi,rfl⟩ := List.getElem_of_mem hx
  have hl:c.l.length=m.dv.length := by rw [← hW.dv]; simp
  have h2 := (hW.at (k:=i) (by omega)).2
  have h3:c.l[i]=(c.hd i,m.at i) := by rw [← h2]; simp [List.getD,hi]
  refine zsw fun w hw=>hb _ ?_
  rw [h3] at hw
  exact (hW.ok.org i (by omega) w hw).2.1
abbrev MH.push (c:MH) (ov:Sl3) (dl bl:List (ByteArray × Nat)) (h:DH) (d:Dv):MH := { c with ov := ov,dl := dl,bl := bl,l := c.l ++ [(h,d)] }
theorem zl5 (hW:MapWF c m) (i:Nat):(c.push ov dl bl h d).hd i=if i=m.dv.length then h else c.hd i := by
  have hl:c.l.length=m.dv.length := by rw [← hW.dv]; simp
  unfold MH.hd
  show ((c.l ++ [(h,d)]).getD i (dh0,Dv.z)).1=_
  by_cases h1:i < c.l.length
  · rw [if_neg (by omega)]; simp [List.getD,List.getElem?_append_left h1]
  · by_cases e:i=m.dv.length
    · subst e; rw [if_pos rfl, ← hl]; simp [List.getD]
    · rw [if_neg e]; simp [List.getD,List.getElem?_eq_none (show (c.l ++ [(h,d)]).length≤i by simp; omega),List.getElem?_eq_none (Nat.le_of_not_lt h1)]
theorem zhg (hW:MapWF c m) (i:Nat):(c.push ov dl bl h d).bs i=if i=m.dv.length then h.b else c.bs i := by
  unfold MH.bs; rw [zl5 hW]; split <;> rfl
theorem zxl {n:ByteArray} (hg:d.gone=false) (hf:m.find d.name=none):(m.push d).bas n=if n=d.name then (if d.isB then some m.dv.length else none) else m.bas n := by
  unfold Md.bas
  rw [Md.find_push hg hf]
  by_cases e:n=d.name
  · rw [if_pos e,if_pos e,Option.bind_some,Md.at_push,if_pos rfl]
  · rw [if_neg e,if_neg e]
    cases h:m.find n with
    | none=>rfl
    | some i=>rw [Option.bind_some,Option.bind_some,Md.at_push,if_neg (c:=i=m.dv.length) (by have := Md.find_lt0 h; omega)]
theorem MapWF.push (hW:MapWF c m) (ok:MdOk (m.push d)) (big:MdBig (m.push d)) (hg:d.gone=false) (hf:m.find d.name=none)
    (hdl:∀ x,lookM dl x=if x=d.name then (if d.isB then none else some h.b) else lookM c.dl x) (hbl:∀ x,lookM bl x=if x=d.name then (if d.isB then some h.b else none) else lookM c.bl x)
    (hne:d.isB=false → ∀ i,m.isD i→c.bs i≠h.b) (hdk:d.isB=true→h.dn < c.s.drv.length∧nowL c.s h.dn=d.base∧d.base.length≤65536 ∧ ∀ i,m.isBs i→(c.hd i).dn≠h.dn):MapWF (c.push ov dl bl h d) (m.push d) := by
  have hcD:∀ i,(m.push d).isD i→(i=m.dv.length∧d.isB=false)∨(i≠m.dv.length∧m.isD i) := fun i hi=>by
    obtain ⟨h1,h2,h3⟩ := hi
    rw [Md.push_len] at h1
    rw [Md.at_push] at h2 h3
    by_cases e:i=m.dv.length
    · rw [if_pos e] at h3; exact .inl ⟨e,h3⟩
    · rw [if_neg e] at h2 h3; exact .inr ⟨e,by omega,h2,h3⟩
  have hcB:∀ i,(m.push d).isBs i→(i=m.dv.length∧d.isB=true)∨(i≠m.dv.length∧m.isBs i) := fun i hi=>by
    obtain ⟨h1,h2,h3⟩ := hi
    rw [Md.push_len] at h1
    rw [Md.at_push] at h2 h3
    by_cases e:i=m.dv.length
    · rw [if_pos e] at h3; exact .inl ⟨e,h3⟩
    · rw [if_neg e] at h2 h3; exact .inr ⟨e,by omega,h2,h3⟩
  refine ⟨?_,ok,big,fun x => ?_,fun x => ?_,fun i j hi hj he => ?_,hW.good,fun k hk => ?_,fun i j hi hj he => ?_,hW.wr⟩
  · show (c.l ++ [(h,d)]).map Prod.snd=m.dv ++ [d]
    rw [List.map_append,hW.dv]; rfl
  · rw [show (c.push ov dl bl h d).dl=dl from rfl,hdl,Md.dev_push hg hf]
    by_cases e:x=d.name
    · rw [if_pos e,if_pos e]
      cases d.isB
      · simp [zhg hW]
      · rfl
    · rw [if_neg e,if_neg e,hW.dl]
      cases hx:m.dev x with
      | none=>rfl
      | some k=>rw [Option.map_some,Option.map_some,zhg hW,if_neg (by have := (Md.dev_is hx).1.1; omega)]
  · rw [show (c.push ov dl bl h d).bl=bl from rfl,hbl,zxl hg hf]
    by_cases e:x=d.name
    · rw [if_pos e,if_pos e]
      cases d.isB
      · rfl
      · simp [zhg hW]
    · rw [if_neg e,if_neg e,hW.bl]
      cases hx:m.bas x with
      | none=>rfl
      | some k=>rw [Option.map_some,Option.map_some,zhg hW,if_neg (by have := (Md.bas_is hx).1.1; omega)]
  · rw [zhg hW,zhg hW] at he
    rcases hcD i hi with ⟨e1,b1⟩ | ⟨e1,b1⟩ <;> rcases hcD j hj with ⟨e2,b2⟩ | ⟨e2,b2⟩
    · rw [e1,e2]
    · rw [if_pos e1,if_neg e2] at he; exact absurd he.symm (hne b1 j b2)
    · rw [if_neg e1,if_pos e2] at he; exact absurd he (hne b2 i b1)
    · rw [if_neg e1,if_neg e2] at he; exact hW.inj i j b1 b2 he
  · rw [zl5 hW,Md.at_push]
    rcases hcB k hk with ⟨e1,b1⟩ | ⟨e1,b1⟩
    · rw [if_pos e1,if_pos e1]; obtain ⟨q1,q2,q3,_⟩ := hdk b1; exact ⟨q1,q2,q3⟩
    · rw [if_neg e1,if_neg e1]; exact hW.dsk k b1
  · rw [zl5 hW,zl5 hW] at he
    rcases hcB i hi with ⟨e1,b1⟩ | ⟨e1,b1⟩ <;> rcases hcB j hj with ⟨e2,b2⟩ | ⟨e2,b2⟩
    · rw [e1,e2]
    · rw [if_pos e1,if_neg e2] at he; exact absurd he.symm ((hdk b1).2.2.2 j b2)
    · rw [if_neg e1,if_pos e2] at he; exact absurd he ((hdk b2).2.2.2 i b1)
    · rw [if_neg e1,if_neg e2] at he; exact hW.dsj i j b1 b2 he
theorem zpn (hW:MapWF c m) (hg:d.gone=false) (hwt:d.wait=[]) (hw:MapWF (c.push ov dl bl h d) (m.push d)) :
    Ent (DevC c.a c.bs (h,d)::Go.VG.Own (DevC c.a c.bs) c.l::mpc mBas c.bm bl::mpc mDev c.dm dl::sl tyS ov.v (m.names ++ [d.name])::sl tyapi_Answer c.tv.v m.told::Arr c.a c.s::R) (MapR (c.push ov dl bl h d) (m.push d)::R) := fun g hh=>by
  have e1:DevC c.a c.bs (h,d)=DevC c.a (c.push ov dl bl h d).bs (h,d) := (zsw fun w hw' => by rw [show ((h,d):DH × Dv).2.wait=[] from hwt] at hw'; cases hw').symm
  have e2 := Own_bs (a:=c.a) (bs' := (c.push ov dl bl h d).bs) hW fun i hi=>by rw [zhg hW,if_neg (by omega)]
  rw [e1, ← e2] at hh
  have h1 := zmu (DevC c.a (c.push ov dl bl h d).bs) (h,d) g hh
  refine stars_star.2 (stars_pur.2 ⟨hw,?_⟩)
  rw [Md.names_push hg]
  exact zbn (show List.Perm (Go.VG.Own (DevC c.a (c.push ov dl bl h d).bs) (c.l ++ [(h,d)])::([mpc mBas c.bm bl,mpc mDev c.dm dl,sl tyS ov.v (m.names ++ [d.name]),sl tyapi_Answer c.tv.v m.told] ++ (Arr c.a c.s::R))) _ from (List.perm_middle (l₁:=[_,_,_,_])).symm) _ h1
abbrev dNew (n:ByteArray):Dv := { Dv.z with name := n }
abbrev hNew (b:Nat):DH := ⟨b,0,s3z,s3z,s3z⟩
theorem zvn {n:ByteArray} {nb:Nat} (hW:MapWF c m) (hf:m.find n=none) (hn:n≠noN) (hlen:m.dv.length + 1≤10000) :
    Ent (blk nb 111 (zdy (hNew nb) (dNew n))::Go.VG.Own (DevC c.a c.bs) c.l::mpc mBas c.bm c.bl::mpc mDev c.dm (setM c.dl n nb)::sl tyS ov.v (m.names ++ [n])::sl tyapi_Answer c.tv.v m.told::Arr c.a c.s::R) (MapR (c.push ov (setM c.dl n nb) c.bl (hNew nb) (dNew n)) (m.push (dNew n))::R) := fun g hh=>by
  have hne:∀ i,m.isD i→c.bs i≠nb := fun i hi=>by
    obtain ⟨a1,a2,d1,e1,p1,q1⟩ := id hh
    obtain ⟨g1,g2⟩ := hW.at hi.1
    have h2 := zfr (DevC c.a c.bs) i (dh0,Dv.z) g1 a2 q1
    rw [g2,zfy hi.2.1 hi.2.2] at h2
    have h3 := stars_star.1 h2
    exact (blk_ne (h:=g) ⟨a1,a2,d1,e1,p1,h3⟩).symm
  have ok := hW.ok.push (d:=dNew n) rfl hn hf rfl rfl rfl rfl rfl rfl (Nat.zero_le _)
  have big := hW.big.push (d:=dNew n) hlen rfl
  have hw:MapWF (c.push ov (setM c.dl n nb) c.bl (hNew nb) (dNew n)) (m.push (dNew n)) := hW.push ok big rfl hf (fun x=>by rw [zjy]; rfl) (fun x=>by
    by_cases e:x=n
    · rw [if_pos e,hW.bl,e]
      have:m.bas n=none := by unfold Md.bas; rw [hf]; rfl
      rw [this]; rfl
    · rw [if_neg e]) (fun _=>hne) (fun h=>by cases h)
  refine zpn hW rfl rfl hw g ?_
  obtain ⟨a1,a2,d1,e1,p1,q1⟩ := hh
  have h1:stars (blk nb 111 (zdy (hNew nb) (dNew n))::sl tyapi_Target (Sl3.v s3z) []::sl tyapi_Target (Sl3.v s3z) []::sl tyErr (Sl3.v s3z) []::(Go.VG.Own (DevC c.a c.bs) c.l::mpc mBas c.bm c.bl::mpc mDev c.dm (setM c.dl n nb)::sl tyS ov.v (m.names ++ [n])::sl tyapi_Answer c.tv.v m.told::Arr c.a c.s::R)) g := ⟨a1,a2,d1,e1,p1,zb2 _ (zb2 _ (zb2 _ q1))⟩
  rw [zfy rfl rfl]
  exact zm9 h1
end
section
variable {m:Md} {n:ByteArray}
theorem crE_cr (h:m.addE n≠0):m.crE n=m.addE n∧m.crS n=m := ⟨rfl,by unfold Md.crS Md.addS; exact if_neg h⟩
theorem cr_ok (h:m.addE n=0):m.crS n=m.push (dNew n)∧m.find n=none∧n≠noN∧m.names.length < 256 := by
  refine ⟨by unfold Md.crS Md.addS; exact if_pos h,?_⟩
  unfold Md.addE at h
  split at h
  · rename_i h1; exact absurd h h1
  · rename_i h1
    have h2:m.freshE n=0 := Classical.not_not.1 h1
    unfold Md.freshE at h2
    split at h2
    · cases h2
    · rename_i h3
      split at h2
      · cases h2
      · rename_i h4
        refine ⟨by simpa using h4,fun e=>h3 (.inl (by rw [e]; decide)),?_⟩
        split at h
        · cases h
        · omega
end
theorem zsx {W:World} {b:Nat} {c:MH} {m:Md} {n:ByteArray} {A:HP} (hA:Reads A tyS c.ov.v m.names) (hl:m.names.length≤100000) :
    CSpec Tryz.prog W 62 [ptr b 0,.string n] [A,blk b 84 (za3 c m)] (fun _:Unit => .int .i64 (m.freshE n)) (fun _=>True) (fun _ F=>A::blk b 84 (za3 c m)::F) := by
 refine CSpec.of_body Tryz.func62 rfl Tryz.ntmps62 rfl fun F => ?_
 show CJ _ _ _ _ _ _ (_::_::F)
 refine sR <| oA rfl rfl <| nT <| zad <| zas <| sR <| oM rfl rfl <| oP (znn rfl Tryz.runUnderlying9) rfl <| oP (P_lss rfl rfl) rfl <| oM rfl rfl ?_
 first | (refine zbp 9 rfl (fun hg1B hg1 => ?_) (fun hg1B hg1 => ?_)) | (refine zbq 9 rfl (fun hg1B hg1 => ?_) (fun hg1B hg1 => ?_)) | (refine zbr 9 rfl (fun hg1B => ?_) (fun hg1B => ?_))
 ·
  refine RJ_gn (GY_no rfl rfl rfl hg1B) rfl rfl <| RJ_gn (GY_no rfl rfl rfl hg1B) rfl rfl <| RJ_gn (GY_no rfl rfl rfl hg1B) rfl rfl <| oP (za2 rfl hg1B rfl) rfl <| oA rfl rfl <| nT <| zbk rfl rfl <| sR <| oA rfl rfl <| nT <| zaj <| zam <| zae <| zan (res1 Tryz.results62 rfl) <| CSpec.close () ?_ ?_ (t0_ (t0_ eR))
  · exact iv (by unfold Md.freshE; first | rw [if_pos (show n.size < 1∨40 < n.size by omega)] | (rw [if_neg (show ¬ (n.size < 1∨40 < n.size) by omega)]; simp_all [Md.memS_find]))
  · trivial
 ·
  refine gP (zab rfl rfl rfl hg1B) (zah rfl) rfl <| gP (zab rfl rfl rfl hg1B) (znn rfl Tryz.runUnderlying9) rfl <| gP (zab rfl rfl rfl hg1B) (P_gtr rfl rfl) rfl <| oP (za5 rfl hg1B rfl) rfl <| oA rfl rfl <| nT ?_
  first | (refine zao rfl (fun hg2 => ?_) (fun hg2 => ?_)) | (refine zap rfl (fun hg2 => ?_) (fun hg2 => ?_)) | (refine zar rfl (fun hg2 => ?_) (fun hg2 => ?_))
  ·
   refine sR <| oA rfl rfl <| nT <| zaj <| zam <| zae <| zan (res1 Tryz.results62 rfl) <| CSpec.close () ?_ ?_ (t0_ (t0_ eR))
   · exact iv (by unfold Md.freshE; first | rw [if_pos (show n.size < 1∨40 < n.size by omega)] | (rw [if_neg (show ¬ (n.size < 1∨40 < n.size) by omega)]; simp_all [Md.memS_find]))
   · trivial
  ·
   refine sR <| oM rfl rfl <| oP (zaf rfl) rfl <| oP (zaa rfl ⟨_,_,_,Tryz.runUnderlying84,rfl,rfl,Tryz.sizeOf59,rfl⟩) rfl <| oV (zag rfl foc1 rfl Tryz.isAgg59) rfl <| oM rfl rfl <| oO <| zaq (zcb hA (zem (by first | assumption | omega))) rfl Tryz.call56 (Dels.cons del0 Dels.nil) rfl fun _ hc1=>oA rfl rfl <| nT ?_
   first | (refine zao rfl (fun hg3 => ?_) (fun hg3 => ?_)) | (refine zap rfl (fun hg3 => ?_) (fun hg3 => ?_)) | (refine zar rfl (fun hg3 => ?_) (fun hg3 => ?_))
   ·
    refine sR <| oA rfl rfl <| nT <| zaj <| zam <| zae <| zan (res1 Tryz.results62 rfl) <| CSpec.close () ?_ ?_ (t0_ (t0_ eR))
    · exact iv (by unfold Md.freshE; first | rw [if_pos (show n.size < 1∨40 < n.size by omega)] | (rw [if_neg (show ¬ (n.size < 1∨40 < n.size) by omega)]; simp_all [Md.memS_find]))
    · trivial
   ·
    refine za8 <| zak <| zat <| sR <| oA rfl rfl <| nT <| zaj <| zan (res1 Tryz.results62 rfl) <| CSpec.close () ?_ ?_ (t0_ (t0_ eR))
    · exact iv (by unfold Md.freshE; first | rw [if_pos (show n.size < 1∨40 < n.size by omega)] | (rw [if_neg (show ¬ (n.size < 1∨40 < n.size) by omega)]; simp_all [Md.memS_find]))
    · trivial
theorem c_add {W:World} {b:Nat} {c:MH} {m:Md} {n:ByteArray} (hl:m.names.length≤100000) :
    CSpec Tryz.prog W 54 [ptr b 0,.string n] [sl tyS c.ov.v m.names,blk b 84 (za3 c m)] (fun _x:Sl3 => .int .i64 (m.addE n)) (fun x=>m.addE n≠0→x=c.ov) (fun x F=>sl tyS x.v (if m.addE n=0 then m.names ++ [n] else m.names)::blk b 84 (za3 { c with ov := x } m)::F) := by
 refine CSpec.of_body Tryz.func54 rfl Tryz.ntmps54 rfl fun F => ?_
 show CJ _ _ _ _ _ _ (_::_::F)
 refine sR <| oA rfl rfl <| nT <| zad <| sR <| oM rfl rfl <| oM rfl rfl <| oO <| zaq (zsx (Reads.sl _ _ _) hl) rfl Tryz.call62 (Dels.cons del0 (Dels.cons del0 Dels.nil)) rfl fun _ hc1=>oA rfl rfl <| nT <| sR <| oM rfl rfl <| oP (P_neq rfl rfl) rfl <| nT ?_
 first | (refine zao rfl (fun hg1 => ?_) (fun hg1 => ?_)) | (refine zap rfl (fun hg1 => ?_) (fun hg1 => ?_)) | (refine zar rfl (fun hg1 => ?_) (fun hg1 => ?_))
 ·
  refine sR <| oM rfl rfl <| oA rfl rfl <| nT <| zaj <| zae <| zan (res1 Tryz.results54 rfl) ?_
  have e1:m.addE n≠0∧m.addE n=m.freshE n := by
    have e2:m.addE n=m.freshE n := by unfold Md.addE; first | rw [if_pos (by assumption)] | rw [if_neg (by assumption),if_pos (by omega)]
    exact ⟨by rw [e2]; assumption,e2⟩
  rw [if_neg e1.1]
  refine CSpec.close c.ov ?_ ?_ (t0_ (t0_ eR))
  · exact iv e1.2.symm
  · exact fun _=>rfl
 ·
  refine kT <| zad <| sR <| oM rfl rfl <| oP (zaf rfl) rfl <| oP (zaa rfl ⟨_,_,_,Tryz.runUnderlying84,rfl,rfl,Tryz.sizeOf59,rfl⟩) rfl <| oV (zag rfl foc1 rfl Tryz.isAgg59) rfl <| oV (V_len rfl foc0 (Reads.sl _ _ _) Tryz.runUnderlying59) rfl <| oP (P_geq rfl rfl) rfl <| nT ?_
  first | (refine zao rfl (fun hg2 => ?_) (fun hg2 => ?_)) | (refine zap rfl (fun hg2 => ?_) (fun hg2 => ?_)) | (refine zar rfl (fun hg2 => ?_) (fun hg2 => ?_))
  ·
   refine sR <| oA rfl rfl <| nT <| zaj <| zae <| zan (res1 Tryz.results54 rfl) ?_
   have e1:m.addE n≠0∧m.addE n=4 := by
     have e2:m.addE n=4 := by unfold Md.addE; first | rw [if_pos (by assumption)] | rw [if_neg (by assumption),if_pos (by omega)]
     exact ⟨by rw [e2]; decide,e2⟩
   rw [if_neg e1.1]
   refine CSpec.close c.ov ?_ ?_ (t0_ (t0_ eR))
   · exact iv e1.2.symm
   · exact fun _=>rfl
  ·
   refine kT <| sR <| oM rfl rfl <| oM rfl rfl <| oP (zaf rfl) rfl <| oP (zaa rfl ⟨_,_,_,Tryz.runUnderlying84,rfl,rfl,Tryz.sizeOf59,rfl⟩) rfl <| oV (zag rfl foc1 rfl Tryz.isAgg59) rfl <| oM rfl rfl <| oO <| za7 rfl (zm7 _) rfl fun b2=>zcl (Ent.trans (t0_ eR) (zcd (t:=tyS) (m:=1) [n] rfl rfl rfl (by decide))) <| oO <| zbv (t:=tyS) (bytes:=16) rfl rfl del1 foc0 (Reads.sl _ _ _) Tryz.underlying59 zjj (by simp only [List.length_append,List.length_cons,List.length_nil,maxLen] at *; omega) (by simp only [List.length_append,List.length_cons,List.length_nil,maxLen] at *; omega) rfl fun p3 c4=>oP (zaf rfl) rfl <| oP (zaa rfl ⟨_,_,_,Tryz.runUnderlying84,rfl,rfl,Tryz.sizeOf59,rfl⟩) rfl <| oO <| zbh rfl rfl foc2 rfl rfl Tryz.sizeOf59 <| nT <| sR <| oA rfl rfl <| nT <| zaj <| zan (res1 Tryz.results54 rfl) ?_
   have e1:m.addE n=0 := by unfold Md.addE; rw [if_neg (by assumption),if_neg (by omega)]
   rw [if_pos e1]
   refine CSpec.close ⟨p3,_,c4⟩ ?_ ?_ (t0_ (t1_ (eD eR)))
   · exact iv e1.symm
   · exact fun h=>absurd e1 h
theorem zxm {W:World} {b:Nat} {c:MH} {m:Md} {n:ByteArray} (hlen:m.dv.length + 1≤10000) :
    CSpec Tryz.prog W 22 [ptr b 0,.string n] [blk b 84 (za3 c m),MapR c m] (fun _:MH => .int .i64 (m.crE n)) (fun _=>True) (fun c2 F=>blk b 84 (za3 c2 (m.crS n))::MapR c2 (m.crS n)::F) := by
 refine CSpec.of_body Tryz.func22 rfl Tryz.ntmps22 rfl fun F => ?_
 show CJ _ _ _ _ _ _ (_::_::F)
 refine zba (zb4 foc1) fun hW => ?_
 have hns := Md.names_len (m:=m)
 refine zbd (Ent.trans (t1_ eR) zgr) <| sR <| oA rfl rfl <| nT <| sR <| oM rfl rfl <| oM rfl rfl <| oO <| zaq (c_add (by omega)) rfl Tryz.call54 (Dels.cons del2 (Dels.cons del5 Dels.nil)) rfl fun ov9 hov9=>oA rfl rfl <| nT <| zad <| sR <| oM rfl rfl <| oP (P_eql rfl rfl) rfl <| nT ?_
 first | (refine zao rfl (fun hg1 => ?_) (fun hg1 => ?_)) | (refine zap rfl (fun hg1 => ?_) (fun hg1 => ?_)) | (refine zar rfl (fun hg1 => ?_) (fun hg1 => ?_))
 ·
  refine zai <| oM rfl rfl <| oP (zaf rfl) rfl <| oP (zaa rfl ⟨_,_,_,Tryz.runUnderlying84,rfl,rfl,Tryz.sizeOf82,rfl⟩) rfl <| oV (zag rfl foc1 rfl Tryz.isAgg82) rfl <| oM rfl rfl <| oM rfl rfl <| oP (zbm rfl (zm8 _)) rfl <| oO <| O_box rfl rfl rfl fun b2=>oO <| ze0 (M:=mDev) (k:=n) (v:=b2) rfl rfl rfl foc4 zgq <| nT <| sR <| oM rfl rfl <| oA rfl rfl <| nT <| zaj <| zan (res1 Tryz.results22 rfl) ?_
  have e0:m.addE n=0 := by assumption
  obtain ⟨e1,e2,e3,e4⟩ := cr_ok e0
  rw [if_pos e0,e1]
  refine CSpec.close (c.push ov9 (setM c.dl n b2) c.bl (hNew b2) (dNew n)) ?_ ?_ (Ent.trans (Ent.trans (t0_ (t5_ (t2_ (t2_ (t0_ (t1_ (t1_ eR))))))) (zvn (ov:=ov9) hW e2 e3 hlen)) (t1_ (t0_ eR)))
  · exact iv (show m.addE n=m.crE n from rfl)
  · trivial
 ·
  refine kT <| sR <| oM rfl rfl <| oA rfl rfl <| nT <| zaj <| zan (res1 Tryz.results22 rfl) ?_
  have e0:m.addE n≠0 := by assumption
  obtain ⟨e1,e2⟩ := crE_cr e0
  obtain rfl := hov9 e0
  rw [if_neg e0,e2]
  refine CSpec.close c ?_ ?_ (Ent.trans (Ent.trans (t2_ (t2_ (t0_ (t1_ (t1_ (t1_ eR)))))) (ztj hW)) (t1_ (t0_ eR)))
  · exact iv e1.symm
  · trivial
end Go.Proofs
namespace Go.Proofs
namespace Md
section
variable {m:Md} {k:Nat} {n:ByteArray}
def drop (m:Md) (k:Nat):Md := m.set k { m.at k with gone := true }
theorem at_drop {i:Nat} (hk:k < m.dv.length):(m.drop k).at i=if i=k then { m.at k with gone := true } else m.at i := at_set hk
theorem drop_len:(m.drop k).dv.length=m.dv.length := by show (m.dv.set k _).length=_; simp
theorem find_drop (hO:MdOk m) (hk:k < m.dv.length) (hg:(m.at k).gone=false):(m.drop k).find n=if n=(m.at k).name then none else m.find n := by
  have hin:∀ {x:Md} {j:Nat},x.find n=some j→j < x.dv.length∧(x.at j).gone=false∧(x.at j).name=n := fun {x j} h=>by
    obtain ⟨h1,h2,_⟩ := List.findIdx?_eq_some_iff_getElem.1 h
    have e:x.at j=x.dv[j] := by simp [Md.at,List.getD,h1]
    simp only [isN,Bool.and_eq_true,Bool.not_eq_true',decide_eq_true_eq] at h2
    exact ⟨h1,by rw [e]; exact h2.1,by rw [e]; exact h2.2⟩
  have hfi:∀ {x:Md} {j:Nat},j < x.dv.length→(x.at j).gone=false→(x.at j).name=n → ∃ i,x.find n=some i := fun {x j} h1 h2 h3=>by
    cases hf:x.find n with
    | some i=>exact ⟨i,rfl⟩
    | none =>
      have := List.findIdx?_eq_none_iff.1 hf x.dv[j] (List.getElem_mem h1)
      have e:x.at j=x.dv[j] := by simp [Md.at,List.getD,h1]
      rw [← e] at this
      simp [isN,h2,h3] at this
  by_cases e:n=(m.at k).name
  · rw [if_pos e]
    cases hf:(m.drop k).find n with
    | none=>rfl
    | some j =>
      obtain ⟨h1,h2,h3⟩ := hin hf
      rw [drop_len] at h1
      rw [at_drop hk] at h2 h3
      by_cases ej:j=k
      · rw [if_pos ej] at h2; cases h2
      · rw [if_neg ej] at h2 h3
        exact absurd (hO.uniq j k h1 hk h2 hg (h3.trans e)) ej
  · rw [if_neg e]
    cases hf:m.find n with
    | none =>
      cases hf2:(m.drop k).find n with
      | none=>rfl
      | some j =>
        obtain ⟨h1,h2,h3⟩ := hin hf2
        rw [drop_len] at h1
        rw [at_drop hk] at h2 h3
        by_cases ej:j=k
        · rw [if_pos ej] at h2; cases h2
        · rw [if_neg ej] at h2 h3
          obtain ⟨i,hi⟩ := hfi h1 h2 h3
          rw [hf] at hi; cases hi
    | some j =>
      obtain ⟨h1,h2,h3⟩ := hin hf
      have ej:j≠k := fun ej=>e (by rw [← h3,ej])
      obtain ⟨i,hi⟩ := hfi (x:=m.drop k) (j:=j) (by rw [drop_len]; exact h1) (by rw [at_drop hk,if_neg ej]; exact h2) (by rw [at_drop hk,if_neg ej]; exact h3)
      obtain ⟨g1,g2,g3⟩ := hin hi
      rw [drop_len] at g1
      rw [at_drop hk] at g2 g3
      by_cases ei:i=k
      · rw [if_pos ei] at g2; cases g2
      · rw [if_neg ei] at g2 g3
        rw [hi,hO.uniq i j g1 h1 g2 h2 (g3.trans h3.symm)]
theorem names_drop (hO:MdOk m) (hk:k < m.dv.length) (hg:(m.at k).gone=false):(m.drop k).names=m.names.filter fun x => !decide (x=(m.at k).name) := by
  have key:∀ (l:List Dv) (o:Nat),(∀ i,i < l.length→l.getD i Dv.z=m.at (o + i))→o + l.length=m.dv.length → ∀ l2:List Dv,l2.length=l.length→(∀ i,i < l.length→l2.getD i Dv.z=if o + i=k then { m.at k with gone := true } else m.at (o + i)) →
      (l2.filter fun d => !d.gone).map (·.name)=((l.filter fun d => !d.gone).map (·.name)).filter fun x => !decide (x=(m.at k).name) := by
    intro l
    induction l with
    | nil=>intro o h1 h2 l2 h3 h4; cases l2 with
      | nil=>rfl
      | cons a b=>cases h3
    | cons a l ih =>
      intro o h1 h2 l2 h3 h4
      cases l2 with
      | nil=>cases h3
      | cons a2 l2 =>
        have e1 := h1 0 (by simp)
        have e2 := h4 0 (by simp)
        simp only [Nat.add_zero,List.getD_cons_zero] at e1 e2
        have ih2 := ih (o + 1) (fun i hi=>by have := h1 (i + 1) (by simpa using hi); rw [List.getD_cons_succ] at this; rw [this]; congr 1; omega) (by simp at h2; omega) l2 (by simpa using h3) (fun i hi=>by have := h4 (i + 1) (by simpa using hi); rw [List.getD_cons_succ] at this; rw [this,show o + (i + 1)=o + 1 + i by omega])
        simp at h2
        by_cases eo:o=k
        · subst eo
          rw [if_pos rfl] at e2
          rw [e1,e2]
          rw [List.filter_cons_of_neg (by simp),List.filter_cons_of_pos (by simp [hg]),List.map_cons,List.filter_cons_of_neg (by simp),ih2]
        · rw [if_neg eo] at e2
          rw [e1,e2]
          by_cases hg2:(m.at o).gone=false
          · rw [List.filter_cons_of_pos (by simp [hg2]),List.filter_cons_of_pos (by simp [hg2]),List.map_cons,List.map_cons,List.filter_cons_of_pos,ih2]
            have:(m.at o).name≠(m.at k).name := fun e=>eo (hO.uniq o k (by omega) hk hg2 hg e)
            simp [this]
          · rw [List.filter_cons_of_neg (by simpa using hg2),List.filter_cons_of_neg (by simpa using hg2),ih2]
  unfold names
  exact key m.dv 0 (fun i _=>by rw [Nat.zero_add]; rfl) (by simp) (m.drop k).dv drop_len (fun i hi=>by rw [Nat.zero_add]; exact at_drop hk)
theorem busy_base (hO:MdOk m) (hb:(m.at k).isB=true):m.busy k=false := by
  unfold busy
  rw [Bool.or_eq_false_iff]
  refine ⟨by rw [(hO.bas k hb).2.2.1]; simp,?_⟩
  rw [Bool.eq_false_iff]
  intro h
  obtain ⟨d,h1,h2⟩ := List.any_eq_true.1 h
  obtain ⟨w,h3,h4⟩ := List.any_eq_true.1 h2
  obtain ⟨i,hi,rfl⟩ := List.getElem_of_mem h1
  have e:m.at i=m.dv[i] := by simp [Md.at,List.getD,hi]
  have := hO.org i hi w (by rw [e]; exact h3)
  rw [of_decide_eq_true h4,hb] at this
  cases this.2.2.2.1
end
end Md
open Md in
theorem MdOk.drop {m:Md} {k:Nat} (hO:MdOk m) (hk:k < m.dv.length) (hg:(m.at k).gone=false) (hu:m.users (m.at k).name=0) (hb:m.busy k=false):MdOk (m.drop k) := by
  have hf := fun n=>find_drop (n:=n) hO hk hg
  have hc:∀ i,((m.drop k).at i).gone=false→i≠k∧(m.drop k).at i=m.at i := fun i hi=>by
    rw [at_drop hk] at hi ⊢
    by_cases e:i=k
    · rw [if_pos e] at hi; cases hi
    · exact ⟨e,if_neg e⟩
  have hfl:∀ i,((m.drop k).at i).live=(m.at i).live∧((m.drop k).at i).new=(m.at i).new∧((m.drop k).at i).hl=(m.at i).hl∧((m.drop k).at i).hn=(m.at i).hn∧((m.drop k).at i).isB=(m.at i).isB∧((m.drop k).at i).susp=(m.at i).susp∧((m.drop k).at i).wait=(m.at i).wait∧((m.drop k).at i).base=(m.at i).base := fun i=>by
    rw [at_drop hk]
    by_cases e:i=k
    · rw [if_pos e,e]; exact ⟨rfl,rfl,rfl,rfl,rfl,rfl,rfl,rfl⟩
    · rw [if_neg e]; exact ⟨rfl,rfl,rfl,rfl,rfl,rfl,rfl,rfl⟩
  unfold busy at hb
  rw [Bool.or_eq_false_iff] at hb
  have hw0:(m.at k).wait=[] := by simpa using hb.1
  have hno:∀ i,i < m.dv.length → ∀ w ∈ (m.at i).wait,w.gv≠k := fun i hi w hw e=>by
    have h := List.any_eq_false.1 hb.2 (m.at i) (by simp [Md.at,List.getD,hi])
    exact h (List.any_eq_true.2 ⟨w,hw,by simp [e]⟩)
  refine ⟨fun i j hi hj hgi hgj he => ?_,fun i hi hgi => ?_,fun i => ?_,fun i hi hgi t ht hne => ?_,?_,fun i hi => ?_,fun i => ?_,fun i => ?_,fun i hi w hw => ?_⟩
  · rw [drop_len] at hi hj
    have e1 := (hc i hgi).2; have e2 := (hc j hgj).2
    rw [e1] at hgi he
    rw [e2] at hgj he
    exact hO.uniq i j hi hj hgi hgj he
  · rw [drop_len] at hi
    have e1 := (hc i hgi).2
    rw [e1] at hgi ⊢
    exact hO.nm i hi hgi
  · rw [(hfl i).1,(hfl i).2.1]; exact hO.chk i
  · rw [drop_len] at hi
    have e1 := (hc i hgi).2
    rw [e1] at hgi ht
    rw [hf]
    have h1 := hO.nam i hi hgi t ht hne
    split
    · rename_i e
      exfalso
      have h2 := List.countP_eq_zero.1 hu (m.at i) (by simp [Md.at,List.getD,hi])
      apply h2
      unfold usesD
      rw [hgi]
      have hn:∀ l:List api_Target,t ∈ l→Go.Proofs.nam l (m.at k).name=true := fun l hl=>List.any_eq_true.2 ⟨t,hl,by rw [← e]; simp [hne]⟩
      rcases List.mem_append.1 ht with h3 | h3
      · rw [hn _ h3]; rfl
      · rw [hn _ h3]; simp
    · exact h1
  · obtain ⟨rk,hr⟩ := hO.acy
    refine ⟨rk,fun i hi hgi t ht j hj => ?_⟩
    rw [drop_len] at hi
    have e1 := (hc i hgi).2
    rw [e1] at hgi ht
    rw [hf] at hj
    split at hj
    · cases hj
    · exact hr i hi hgi t ht j hj
  · obtain ⟨q1,q2,q3,q4,q5,q6,q7,q8⟩ := hfl i
    rw [q5] at hi
    rw [q1,q2,q3,q4,q6,q7,q8]; exact hO.bas i hi
  · rw [(hfl i).1,(hfl i).2.2.1]; exact hO.hl i
  · rw [(hfl i).2.1,(hfl i).2.2.2.1]; exact hO.hn i
  · rw [drop_len] at hi ⊢
    rw [(hfl i).2.2.2.2.2.2.1] at hw
    obtain ⟨g1,g2,g3,g4,g5⟩ := hO.org i hi w hw
    have ei:i≠k := fun e=>by rw [e,hw0] at hw; cases hw
    have ew := hno i hi w hw
    refine ⟨by rw [at_drop hk,if_neg ei]; exact g1,g2,by rw [at_drop hk,if_neg ew]; exact g3,by rw [at_drop hk,if_neg ew]; exact g4,g5⟩
theorem MdBig.drop {m:Md} {k:Nat} (h:MdBig m) (hk:k < m.dv.length):MdBig (m.drop k) := h.set hk rfl (h.wl k) h.tks h.told h.wr
end Go.Proofs
set_option linter.unusedSimpArgs false
set_option maxRecDepth 20000
namespace Go.Proofs
open Go.VG
theorem zlj {κ ν:Type} [DecidableEq κ] {M:MTy κ ν} {r:Nat} {l:List (κ × ν)} {H:List HP} {C:HP→List HP} (hf:Foc H (mpc M r l) C):∀ h,stars H h→(l.map (·.1)).Nodup := fun h hh=>by
  obtain ⟨F,hp,_⟩ := hf.focus
  obtain ⟨a1,a2,d1,e1,⟨es,clock,_,_,h3,_⟩,_⟩ := zbn hp _ hh
  exact h3
namespace Md
section
variable {m:Md} {n:ByteArray} {k:Nat}
theorem zra (m:Md):m.dv=(List.range m.dv.length).map m.at := List.ext_getElem (by simp) fun i h1 h2=>by simp [Md.at,List.getD,h1]
theorem names_range (m:Md):m.names=((List.range m.dv.length).filter fun j => !(m.at j).gone).map fun j=>(m.at j).name := by
  have:m.names=((((List.range m.dv.length).map m.at).filter fun d => !d.gone)).map (·.name) := by rw [← zra]; rfl
  rw [this,List.filter_map,List.map_map]; rfl
theorem zp1 {l:List Nat} {f:Nat→Option Nat} {q:Nat→Bool} (h:∀ j ∈ l,f j=if q j then some j else none):l.filterMap f=l.filter q := by
  induction l with
  | nil=>rfl
  | cons a l ih =>
    have h1 := h a List.mem_cons_self
    have h2 := ih fun j hj=>h j (List.mem_cons_of_mem _ hj)
    cases hq:q a with
    | true=>rw [hq] at h1; rw [List.filterMap_cons_some h1,List.filter_cons_of_pos hq,h2]
    | false=>rw [hq] at h1; rw [List.filterMap_cons_none h1,List.filter_cons_of_neg (by simp [hq]),h2]
theorem zrb (hO:MdOk m):m.usersN n=(List.range m.dv.length).filter fun j=>usesD (m.at j) n := by
  unfold usersN
  rw [names_range,List.filterMap_map,zp1 (q:=fun j => !(m.at j).isB),List.filter_filter,List.filter_filter]
  · refine List.filter_congr fun j hj => ?_
    cases hu:usesD (m.at j) n with
    | false=>simp
    | true =>
      have h1:(m.at j).gone=false := by unfold usesD at hu; simp at hu; exact hu.1
      have h2:(m.at j).isB=false := by
        cases hb:(m.at j).isB with
        | false=>rfl
        | true =>
          obtain ⟨g1,g2,_⟩ := hO.bas j hb
          unfold usesD at hu; rw [g1,g2] at hu; simp [nam] at hu
      simp [h1,h2]
  · intro j hj
    obtain ⟨h1,h2⟩ := List.mem_filter.1 hj
    show m.dev (m.at j).name=_
    unfold dev
    rw [at_find hO (List.mem_range.1 h1) (by simpa using h2),Option.bind_some]
    cases (m.at j).isB <;> rfl
theorem users_len (hO:MdOk m):(m.usersN n).length=m.users n := by
  rw [zrb hO]
  have:m.users n=((List.range m.dv.length).map m.at).countP fun d=>usesD d n := by rw [← zra]; rfl
  rw [this,List.countP_map,List.countP_eq_length_filter]; rfl
end
end Md
section
variable {xs ys:List ByteArray} {n:ByteArray} {i j:Nat}
abbrev kpS (n:ByteArray):ByteArray→Bool := fun x => !decide (x=n)
theorem zvo (hi:i < xs.length) (h:∀ y ∈ xs.take i,y≠n) (he:xs.getD i ByteArray.empty=n):xs.take i=(xs.take (i + 1)).filter (kpS n) := by
  rw [takeD ByteArray.empty hi,List.filter_append,he,List.filter_cons_of_neg (by simp),List.filter_nil,List.append_nil]
  exact (List.filter_eq_self.2 fun y hy=>by simp [h y hy]).symm
theorem del_eq (_hj:j < xs.length) (hd:ys.drop j=xs.drop j):ys.getD j ByteArray.empty=xs.getD j ByteArray.empty := by
  have := congrArg (fun l=>l.getD 0 ByteArray.empty) hd
  simpa [List.getD] using this
theorem zrc (hd:ys.drop j=xs.drop j):ys.drop (j + 1)=xs.drop (j + 1) := by
  have := congrArg (List.drop 1) hd
  simpa [List.drop_drop] using this
theorem zxn (hj:j < xs.length) (h:ys.take i=(xs.take j).filter (kpS n)) (he:xs.getD j ByteArray.empty=n):ys.take i=(xs.take (j + 1)).filter (kpS n) := by
  rw [h,takeD ByteArray.empty hj,List.filter_append,he,List.filter_cons_of_neg (by simp),List.filter_nil,List.append_nil]
theorem zxo (hj:j < xs.length) (hij:i < j) (hl:ys.length=xs.length) (h:ys.take i=(xs.take j).filter (kpS n)) (he:xs.getD j ByteArray.empty≠n):(ys.set i (xs.getD j ByteArray.empty)).take (i + 1)=(xs.take (j + 1)).filter (kpS n) := by
  rw [takeD ByteArray.empty hj,List.filter_append, ← h,List.filter_cons_of_pos (by simp only [kpS,he,decide_false,Bool.not_false]),List.filter_nil,List.take_succ_eq_append_getElem (by simp; omega),List.take_set_of_le (Nat.le_refl _),List.getElem_set_self]
end
section
variable {X:HP} {c:MH} {m:Md} {R:List HP} {k:Nat} {n:ByteArray} {ov:Sl3}
theorem zvp (hk:k < m.dv.length):Ent (MapRG X c m::R) (mpc mBas c.bm c.bl::X::sl tyS c.ov.v m.names::sl tyapi_Answer c.tv.v m.told::ORest (DevC c.a c.bs) c.l k::Arr c.a c.s::R) := fun g hh=>by
  obtain ⟨hw,h1⟩ := stars_pur.1 (stars_star.1 hh)
  obtain ⟨g1,g2⟩ := hw.at hk
  have h2 := zbn (show List.Perm _ (Go.VG.Own (DevC c.a c.bs) c.l::([mpc mBas c.bm c.bl,X,sl tyS c.ov.v m.names,sl tyapi_Answer c.tv.v m.told,Arr c.a c.s] ++ R)) from (List.perm_middle (l₁:=[_,_,_,_]))) _ h1
  have h3 := (Ent.trans (zfr (DevC c.a c.bs) k (dh0,Dv.z) g1) (Ent.drop Ent.refl)) g h2
  have h4:stars (ORest (DevC c.a c.bs) c.l k::([mpc mBas c.bm c.bl,X,sl tyS c.ov.v m.names,sl tyapi_Answer c.tv.v m.told] ++ (Arr c.a c.s::R))) g := h3
  exact zbn (List.perm_middle (l₁:=[_,_,_,_])).symm _ h4
abbrev MH.less (c:MH) (m:Md) (ov:Sl3) (n:ByteArray) (k:Nat):MH := { c with ov := ov,dl := delM c.dl n,bl := delM c.bl n,l := c.l.set k (c.hd k, { m.at k with gone := true }) }
theorem MapWF.less (hW:MapWF c m) (hf:m.find n=some k) (ok:MdOk (m.drop k)) (h1:(c.dl.map (·.1)).Nodup) (h2:(c.bl.map (·.1)).Nodup):MapWF (c.less m ov n k) (m.drop k) := by
  obtain ⟨hk,hg,hn⟩ := Md.find_lt hf
  have hb:(c.less m ov n k).bs=c.bs := zgz (c:=c) (s' := c.s) (hW.at hk).1 (h' := c.hd k) (d' := { m.at k with gone := true }) rfl rfl
  have hh:∀ i,(c.less m ov n k).hd i=c.hd i := fun i=>by
    unfold MH.hd
    show ((c.l.set k (c.hd k,_)).getD i (dh0,Dv.z)).1=_
    by_cases e:i=k
    · subst e
      have:(c.l.set i (c.hd i, { m.at i with gone := true })).getD i (dh0,Dv.z)=(c.hd i, { m.at i with gone := true }) := by simp [List.getD,(hW.at hk).1]
      rw [this]; rfl
    · have:(c.l.set k (c.hd k, { m.at k with gone := true })).getD i (dh0,Dv.z)=c.l.getD i (dh0,Dv.z) := by simp [List.getD,List.getElem?_set,Ne.symm e]
      rw [this]
  have hfd := fun x=>Md.find_drop (n:=x) hW.ok hk hg
  have hDr:∀ i,((m.drop k).at i).gone=false→(m.drop k).at i=m.at i := fun i hi=>by
    rw [Md.at_drop hk] at hi ⊢
    by_cases e:i=k
    · rw [if_pos e] at hi; cases hi
    · rw [if_neg e]
  have hB:∀ i,((m.drop k).at i).isB=(m.at i).isB := fun i=>by rw [Md.at_drop hk]; split; · rename_i e; rw [e]
                                                              · rfl
  have hD:∀ i,(m.drop k).isD i→m.isD i := fun i hi=>⟨by have := hi.1; rwa [Md.drop_len] at this,by have := hi.2.1; rwa [hDr i this] at this,by have := hi.2.2; rwa [hB] at this⟩
  have hS:∀ i,(m.drop k).isBs i→m.isBs i := fun i hi=>⟨by have := hi.1; rwa [Md.drop_len] at this,by have := hi.2.1; rwa [hDr i this] at this,by have := hi.2.2; rwa [hB] at this⟩
  refine ⟨?_,ok,hW.big.drop hk,fun x => ?_,fun x => ?_,fun i j hi hj he => ?_,hW.good,fun i hi => ?_,fun i j hi hj he => ?_,hW.wr⟩
  · show (c.l.set k _).map Prod.snd=m.dv.set k _
    rw [List.map_set,hW.dv]
  · rw [hb,show (c.less m ov n k).dl=delM c.dl n from rfl,zjz _ _ _ h1]
    unfold Md.dev
    rw [hfd,hn]
    by_cases e:x=n
    · rw [if_pos e,if_pos e]; rfl
    · rw [if_neg e,if_neg e,hW.dl]
      unfold Md.dev
      cases m.find x with
      | none=>rfl
      | some i=>rw [Option.bind_some,Option.bind_some,hB]
  · rw [hb,show (c.less m ov n k).bl=delM c.bl n from rfl,zjz _ _ _ h2]
    unfold Md.bas
    rw [hfd,hn]
    by_cases e:x=n
    · rw [if_pos e,if_pos e]; rfl
    · rw [if_neg e,if_neg e,hW.bl]
      unfold Md.bas
      cases m.find x with
      | none=>rfl
      | some i=>rw [Option.bind_some,Option.bind_some,hB]
  · rw [hb] at he; exact hW.inj i j (hD i hi) (hD j hj) he
  · rw [hh,hDr i hi.2.1]; exact hW.dsk i (hS i hi)
  · rw [hh,hh] at he; exact hW.dsj i j (hS i hi) (hS j hj) he
theorem zpo (hW:MapWF c m) (hf:m.find n=some k) (ok:MdOk (m.drop k)) (h1:(c.dl.map (·.1)).Nodup) (h2:(c.bl.map (·.1)).Nodup) :
    Ent (ORest (DevC c.a c.bs) c.l k::mpc mBas c.bm (delM c.bl n)::mpc mDev c.dm (delM c.dl n)::sl tyS ov.v (m.names.filter (kpS n))::sl tyapi_Answer c.tv.v m.told::Arr c.a c.s::R) (MapR (c.less m ov n k) (m.drop k)::R) := fun g hh=>by
  have hw := hW.less (ov:=ov) hf ok h1 h2
  obtain ⟨hk,hg,hn⟩ := Md.find_lt hf
  have hb:(c.less m ov n k).bs=c.bs := zgz (c:=c) (s' := c.s) (hW.at hk).1 (h' := c.hd k) (d' := { m.at k with gone := true }) rfl rfl
  have e0:DevC c.a c.bs (c.hd k, { m.at k with gone := true })=star [] := by unfold DevC; rw [if_pos rfl]
  have e := zfs (f:=DevC c.a c.bs) (l:=c.l) (i:=k) (c.hd k, { m.at k with gone := true }) (hW.at hk).1 (R:=mpc mBas c.bm (delM c.bl n)::mpc mDev c.dm (delM c.dl n)::sl tyS ov.v (m.names.filter (kpS n))::sl tyapi_Answer c.tv.v m.told::Arr c.a c.s::R) g (by rw [e0]; exact stars_star.2 hh)
  refine stars_star.2 (stars_pur.2 ⟨hw,?_⟩)
  rw [Md.names_drop hW.ok hk hg,hb,hn]
  exact zbn (show List.Perm (Go.VG.Own (DevC c.a c.bs) (c.l.set k (c.hd k, { m.at k with gone := true }))::([mpc mBas c.bm (delM c.bl n),mpc mDev c.dm (delM c.dl n),sl tyS ov.v (m.names.filter (kpS n)),sl tyapi_Answer c.tv.v m.told] ++ (Arr c.a c.s::R))) _ from (List.perm_middle (l₁:=[_,_,_,_])).symm) _ e
end
section
variable {m:Md} {n:ByteArray} {k:Nat}
theorem zoy (h:m.find n=none):m.rmE n=12∧m.rmS n=m := by unfold Md.rmE Md.rmS; rw [h]; exact ⟨rfl,rfl⟩
theorem zkb (hf:m.find n=some k) (h:0 < m.users n):m.rmE n=16∧m.rmS n=m := by
  have e:m.rmE n=16 := by unfold Md.rmE; rw [hf]; exact if_pos h
  exact ⟨e,by unfold Md.rmS; rw [hf]; show (if _ then _ else _)=_; rw [if_neg (by rw [e]; decide)]⟩
theorem zoz (hf:m.find n=some k) (h:¬ 0 < m.users n) (hb:m.busy k=true):m.rmE n=20∧m.rmS n=m := by
  have e:m.rmE n=20 := by unfold Md.rmE; rw [hf]; show (if _ then _ else _)=_; rw [if_neg h,if_pos hb]
  exact ⟨e,by unfold Md.rmS; rw [hf]; show (if _ then _ else _)=_; rw [if_neg (by rw [e]; decide)]⟩
theorem rm_ok (hf:m.find n=some k) (h:¬ 0 < m.users n) (hb:m.busy k=false):m.rmE n=0∧m.rmS n=m.drop k := by
  have e:m.rmE n=0 := by unfold Md.rmE; rw [hf]; show (if _ then _ else _)=_; rw [if_neg h,if_neg (by simp [hb])]
  exact ⟨e,by unfold Md.rmS; rw [hf]; show (if _ then _ else _)=_; rw [if_pos e]; rfl⟩
end
theorem zpp {W:World} {q:Nat} {n x:ByteArray} :
    CSpec Tryz.prog W 60 [.string x,ptr q 0] [blk q 9 [.string n]] (fun _:Unit => .bool (decide (x=n))) (fun _=>True) (fun _ F=>blk q 9 [.string n]::F) := by
 refine CSpec.of_body Tryz.func60 rfl Tryz.ntmps60 rfl fun F => ?_
 show CJ _ _ _ _ _ _ (_::F)
 refine sR <| oA rfl rfl <| nT <| sR <| oM rfl rfl <| oV (zag rfl foc0 rfl Tryz.isAgg9) rfl <| oP (zcj rfl rfl Tryz.underlying9) rfl <| oA rfl rfl <| nT <| zaj <| zan (res1 Tryz.results60 rfl) <| CSpec.close () ?_ ?_ (t0_ eR)
 · rfl
 · trivial
theorem c_idxR {W:World} {v:Sl3} {xs:List ByteArray} {q:Nat} {n:ByteArray} (hl:xs.length≤1000000) :
    CSpec Tryz.prog W 96 [v.v,.func (.func 60) #[] #[ptr q 0]] [sl tyS v.v xs,blk q 9 [.string n]] (fun r:Int => .int .i64 r) (fun r=>(r = -1 ∧ ∀ y ∈ xs,y≠n) ∨ ∃ i:Nat,i < xs.length∧r=(i:Int)∧xs.getD i ByteArray.empty=n ∧ ∀ y ∈ xs.take i,y≠n) (fun _ F=>sl tyS v.v xs::blk q 9 [.string n]::F) := by
 refine CSpec.of_body Tryz.func96 rfl Tryz.ntmps96 rfl fun F => ?_
 show CJ _ _ _ _ _ _ (_::_::F)
 refine sR <| oA rfl rfl <| nT <| zad <| sR <| oM rfl rfl <| oV (V_len rfl foc0 (Reads.sl _ _ _) Tryz.runUnderlying59) rfl <| oM rfl rfl <| nT <| zas <| zbe (X:=Nat) [4,5,8,9,10,11,12,13,14,15,16,17,18] (fun i  => ([(8,.int .i64 (i:Nat))]:Slots)) (fun i R=>R) (fun i  => i≤xs.length ∧ ∀ y ∈ xs.take i,y≠n) (fun i  => xs.length - i) (0) ?_ ?_ (t0_ (t0_ eR)) ?_
 · exact ⟨Nat.zero_le _,fun y hy=>by simp at hy⟩
 · exact ⟨rfl,True.intro⟩
 ·
  intro i hpf
  obtain ⟨hi,hno⟩ := hpf
  show CJ _ _ _ _ _ (([(8,.int .i64 (i:Nat))]:Slots) ++ forget _ _) (_)
  refine sR <| oP (P_lss rfl rfl) rfl <| nT <| zad ?_
  first | (refine zao rfl (fun hg1 => ?_) (fun hg1 => ?_)) | (refine zap rfl (fun hg1 => ?_) (fun hg1 => ?_)) | (refine zar rfl (fun hg1 => ?_) (fun hg1 => ?_))
  ·
   refine kT <| zad <| zas <| sR <| oM rfl rfl <| oA rfl rfl <| nT <| sR <| oM rfl rfl <| oM rfl rfl <| oM rfl rfl ?_
   first | (refine RJ_op rfl (OJ_V (zal rfl rfl rfl (by omega) foc0 (Reads.sl _ _ _) Tryz.runUnderlying59 Tryz.sizeOf9) rfl ?_)) | (refine RJ_op rfl (OJ_V (zal rfl rfl (Int.toNat_of_nonneg (by omega)).symm (by omega) foc0 (Reads.sl _ _ _) Tryz.runUnderlying59 Tryz.sizeOf9) rfl ?_))
   refine oV (zaz rfl rfl (by omega) foc0 (Reads.sl _ _ _) rfl rfl Tryz.isAgg9) rfl <| oO <| zdh rfl rfl (zpp) Tryz.call60 (Dels.cons del1 Dels.nil) rfl fun _ hc1=>nT ?_
   first | (refine zao rfl (fun hg2 => ?_) (fun hg2 => ?_)) | (refine zap rfl (fun hg2 => ?_) (fun hg2 => ?_)) | (refine zar rfl (fun hg2 => ?_) (fun hg2 => ?_))
   ·
    refine sR <| oM rfl rfl <| oA rfl rfl <| nT <| zaj <| zam <| zae <| zbb <| zam <| zae <| zan (res1 Tryz.results96 rfl) <| CSpec.close (i:Int) ?_ ?_ (t1_ (t0_ eR))
    · rfl
    · exact .inr ⟨i,by omega,rfl,by assumption,hno⟩
   ·
    refine za8 <| zak <| zat <| zai <| oP (P_add rfl rfl (by omega)) rfl <| oM rfl rfl <| za0 <| za6 (i + 1) (by first | omega | (simp only []; omega)) ?_ (by repeat (first | exact Kp.base | exact Kp.self | refine Kp.cons rfl ?_ | refine Kp.forget rfl ?_)) ?_ (t1_ (t0_ eR))
    ·
     refine ⟨by omega,fun y hy => ?_⟩
     rw [takeD ByteArray.empty (by omega)] at hy
     rcases List.mem_append.1 hy with h | h
     · exact hno y h
     · rw [List.mem_singleton] at h; subst h; assumption
    · exact ⟨rfl,True.intro⟩
  ·
   refine zbg <| zaw <| zav <| zau <| zat <| sR <| oA rfl rfl <| nT <| zaj <| zan (res1 Tryz.results96 rfl) <| CSpec.close (-1) ?_ ?_ (t0_ (t0_ eR))
   · rfl
   ·
    obtain rfl:i=xs.length := by omega
    rw [List.take_length] at hno
    exact .inl ⟨rfl,hno⟩
theorem zvq {W:World} {v:Sl3} {xs:List ByteArray} {q:Nat} {n:ByteArray} (hl:xs.length≤1000000) :
    CSpec Tryz.prog W 59 [v.v,.func (.func 60) #[] #[ptr q 0]] [sl tyS v.v xs,blk q 9 [.string n]] (fun x:Sl3=>x.v) (fun _=>True) (fun x F=>sl tyS x.v (xs.filter (kpS n))::blk q 9 [.string n]::F) := by
 refine CSpec.of_body Tryz.func59 rfl Tryz.ntmps59 rfl fun F => ?_
 show CJ _ _ _ _ _ _ (_::_::F)
 refine sR <| oA rfl rfl <| nT <| sR <| oM rfl rfl <| oM rfl rfl <| oO <| zaq (c_idxR hl) rfl Tryz.call96 (Dels.cons del0 (Dels.cons del0 Dels.nil)) rfl fun r hr=>oA rfl rfl <| nT <| zad <| sR <| oM rfl rfl <| oP (P_eql rfl rfl) rfl <| nT ?_
 first | (refine zao rfl (fun hg1 => ?_) (fun hg1 => ?_)) | (refine zap rfl (fun hg1 => ?_) (fun hg1 => ?_)) | (refine zar rfl (fun hg1 => ?_) (fun hg1 => ?_))
 ·
  refine sR <| oM rfl rfl <| oA rfl rfl <| nT <| zaj <| zae <| zan (res1 Tryz.results59 rfl) <| CSpec.close v ?_ ?_ (Ent.takeC del0 (congrArg (sl tyS v.v) (List.filter_eq_self.2 fun y hy=>by
    rcases hr with ⟨_,h1⟩ | ⟨i,_,h1,_⟩
    · simp [h1 y hy]
    · omega).symm) (t0_ eR))
  · rfl
  · trivial
 ·
  refine kT <| zad <| zad ?_
  obtain ⟨i0,hi0,rfl,hit0,hno0⟩:∃ i:Nat,i < xs.length∧r=(i:Int)∧xs.getD i ByteArray.empty=n ∧ ∀ y ∈ xs.take i,y≠n := by
    rcases hr with ⟨h1,_⟩ | h1
    · omega
    · exact h1
  refine zai <| oM rfl rfl <| oP (P_add rfl rfl (by omega)) rfl <| oA rfl rfl <| nT <| zas <| zbe (X:=Nat × Nat × List ByteArray) [5,6,7,16,17,18,19,20,21,22,23,24,25,26,27,28,29,30,31,32,33,34,35] (fun ⟨i,j,ys⟩  => ([(5,.int .i64 (i:Nat)),(6,.int .i64 (j:Nat))]:Slots)) (fun ⟨i,j,ys⟩ R=>sl tyS v.v ys::R) (fun ⟨i,j,ys⟩  => i < j∧j≤xs.length∧ys.length=xs.length∧ys.take i=(xs.take j).filter (kpS n)∧ys.drop j=xs.drop j) (fun ⟨i,j,ys⟩  => xs.length - j) ⟨i0,i0 + 1,xs⟩ ?_ ?_ (t0_ (t0_ eR)) ?_
  · exact ⟨by omega,by omega,rfl,zvo hi0 hno0 hit0,rfl⟩
  · exact ⟨rfl,rfl,True.intro⟩
  ·
   rintro ⟨i,j,ys⟩ ⟨hij,hj,hyl,htk,hdr⟩
   show CJ _ _ _ _ _ (([(5,.int .i64 (i:Nat)),(6,.int .i64 (j:Nat))]:Slots) ++ forget _ _) (sl tyS v.v ys::_)
   refine zad <| sR <| oM rfl rfl <| oM rfl rfl <| oV (V_len rfl foc0 (Reads.sl _ _ _) Tryz.runUnderlying59) rfl <| oP (P_lss rfl rfl) rfl <| nT ?_
   first | (refine zao rfl (fun hg2 => ?_) (fun hg2 => ?_)) | (refine zap rfl (fun hg2 => ?_) (fun hg2 => ?_)) | (refine zar rfl (fun hg2 => ?_) (fun hg2 => ?_))
   ·
    refine kT <| zad <| zas <| zad ?_
    have hje := del_eq (j:=j) (by omega) hdr
    refine zai <| oM rfl rfl <| oM rfl rfl ?_
    first | (refine RJ_op rfl (OJ_V (zal rfl rfl rfl (by omega) foc0 (Reads.sl _ _ _) Tryz.runUnderlying59 Tryz.sizeOf9) rfl ?_)) | (refine RJ_op rfl (OJ_V (zal rfl rfl (Int.toNat_of_nonneg (by omega)).symm (by omega) foc0 (Reads.sl _ _ _) Tryz.runUnderlying59 Tryz.sizeOf9) rfl ?_))
    refine oV (zaz rfl rfl (by omega) foc0 (Reads.sl _ _ _) rfl rfl Tryz.isAgg9) rfl <| oA rfl rfl <| nT <| sR <| oM rfl rfl <| oM rfl rfl <| oO <| zdh rfl rfl (zpp) Tryz.call60 (Dels.cons del1 Dels.nil) rfl fun _ hc2=>oP (P_not rfl) rfl <| nT ?_
    first | (refine zao rfl (fun hg3 => ?_) (fun hg3 => ?_)) | (refine zap rfl (fun hg3 => ?_) (fun hg3 => ?_)) | (refine zar rfl (fun hg3 => ?_) (fun hg3 => ?_))
    ·
     refine sR <| oM rfl rfl <| oM rfl rfl <| oM rfl rfl ?_
     first | (refine RJ_op rfl (OJ_V (zal rfl rfl rfl (by omega) foc1 (Reads.sl _ _ _) Tryz.runUnderlying59 Tryz.sizeOf9) rfl ?_)) | (refine RJ_op rfl (OJ_V (zal rfl rfl (Int.toNat_of_nonneg (by omega)).symm (by omega) foc1 (Reads.sl _ _ _) Tryz.runUnderlying59 Tryz.sizeOf9) rfl ?_))
     refine oO <| zb3 (x' := ys.getD j ByteArray.empty) rfl rfl rfl (by omega) foc1 rfl rfl rfl Tryz.sizeOf9 <| nT <| zai <| oM rfl rfl <| oP (P_add rfl rfl (by omega)) rfl <| oA rfl rfl <| za0 <| zak <| zat <| zai <| oM rfl rfl <| oP (P_add rfl rfl (by omega)) rfl <| oA rfl rfl <| za0 <| za6 ⟨i + 1,j + 1,ys.set i (xs.getD j ByteArray.empty)⟩ (by show xs.length - (j + 1) < xs.length - j; omega) ?_ (by repeat (first | exact Kp.base | exact Kp.self | refine Kp.cons rfl ?_ | refine Kp.forget rfl ?_)) ?_ (Ent.takeC del1 (congrArg (sl tyS v.v) (by rw [← hje])) (t0_ eR))
     · exact ⟨by omega,by omega,by rw [List.length_set]; exact hyl,zxo (by omega) hij hyl htk (by rw [← hje]; assumption),by rw [List.drop_set_of_lt (by omega)]; exact zrc hdr⟩
     · exact ⟨rfl,rfl,True.intro⟩
    ·
     refine za8 <| zak <| zat <| zai <| oM rfl rfl <| oP (P_add rfl rfl (by omega)) rfl <| oA rfl rfl <| za0 <| za6 ⟨i,j + 1,ys⟩ (by show xs.length - (j + 1) < xs.length - j; omega) ?_ (by repeat (first | exact Kp.base | exact Kp.self | refine Kp.cons rfl ?_ | refine Kp.forget rfl ?_)) ?_ (t1_ (t0_ eR))
     · exact ⟨by omega,by omega,hyl,zxn (by omega) htk (by rw [← hje]; simp_all),zrc hdr⟩
     · exact ⟨rfl,rfl,True.intro⟩
   ·
    refine zbg <| zaw <| zav <| zau <| zat <| sR <| oM rfl rfl <| oM rfl rfl <| oV (zii (l:=i) (h:=ys.length) rfl foc0 (Reads.sl _ _ _) ⟨_,rfl⟩ rfl (by omega) (by omega) Tryz.underlying59 Tryz.sizeOf9) rfl <| oO <| zsc (l:=i) rfl (by omega) foc0 Tryz.underlying59 Tryz.zeroValue9 rfl <| nT <| sR <| oM rfl rfl <| oM rfl rfl <| oV (zii (l:=0) (h:=i) rfl foc0 (Reads.sl _ _ _) rfl ⟨_,rfl⟩ (by omega) (by simp; omega) Tryz.underlying59 Tryz.sizeOf9) rfl <| oA rfl rfl <| nT <| zaj ?_
    obtain rfl:j=xs.length := by omega
    rw [List.take_length] at htk
    refine zsb (Ent.transX (t0_ eR) (zo8 (h:=i) (by simp; omega))) fun hd9=>zug fun e9 => ?_
    rw [e9]
    refine zan (res1 Tryz.results59 rfl) <| CSpec.close ⟨hd9.1,_,hd9.2⟩ ?_ ?_ (Ent.takeC del0 (congrArg (sl tyS _) (by rw [List.take_left' (by rw [List.length_take]; omega),htk])) (t0_ eR))
    · rfl
    · trivial
theorem zxp {W:World} {b:Nat} {c:MH} {m:Md} {n:ByteArray} :
    CSpec Tryz.prog W 24 [ptr b 0,.string n] [blk b 84 (za3 c m),MapR c m] (fun _:MH => .int .i64 (m.rmE n)) (fun _=>True) (fun c2 F=>blk b 84 (za3 c2 (m.rmS n))::MapR c2 (m.rmS n)::F) := by
 refine CSpec.of_body Tryz.func24 rfl Tryz.ntmps24 rfl fun F => ?_
 show CJ _ _ _ _ _ _ (_::_::F)
 refine zba (zb4 foc1) fun hW => ?_
 have hO := hW.ok
 have hns := Md.names_len (m:=m)
 have hln := hW.big.len
 refine sR <| oO <| O_box rfl rfl rfl fun b1=>oA rfl rfl <| nT <| zad <| za4 0 (by kernel_rfl) rfl <| aN 0 1 rfl rfl (zah rfl) rfl <| aN 1 3 rfl rfl (zaf rfl) rfl <| aN 2 7 rfl rfl (zaa rfl ⟨_,_,_,Tryz.runUnderlying84,rfl,rfl,Tryz.sizeOf82,rfl⟩) rfl <| aV 3 15 rfl rfl (zac rfl) (t0_ (t0_ (t0_ eR))) (zag rfl foc1 rfl Tryz.isAgg82) rfl <| aV 4 31 rfl rfl (zac rfl) (t0_ (t0_ (t0_ eR))) (zag rfl foc0 rfl Tryz.isAgg9) rfl <| AJ_op 5 63 rfl (by kernel_rfl) rfl (zac rfl) (zeb rfl rfl foc2 rfl (fun hd3 => ?_) (fun k2 hd3 => ?_))
 ·
  refine ⟨fun _=>(t0_ (t0_ (t0_ eR))),?_⟩
  refine aN 6 127 rfl rfl (zbc rfl) rfl <| aD <| zad <| zas <| zad <| za4 32 (by kernel_rfl) rfl <| aN 0 1 rfl rfl (zah rfl) rfl <| aN 1 3 rfl rfl (zaf rfl) rfl <| aN 2 7 rfl rfl (zaa rfl ⟨_,_,_,Tryz.runUnderlying84,rfl,rfl,Tryz.sizeOf59,rfl⟩) rfl <| aV 3 15 rfl rfl (zac rfl) (t0_ (t0_ (t0_ eR))) (zag rfl foc1 rfl Tryz.isAgg59) rfl <| aV 4 31 rfl rfl (zac rfl) (t0_ (t0_ (t0_ eR))) (zag rfl foc0 rfl Tryz.isAgg9) rfl <| AJ_op 5 63 rfl (by kernel_rfl) rfl (zac rfl) <| zaq (zcb rdOrd (zem (by first | assumption | omega))) rfl Tryz.call56 (Dels.cons del2 Dels.nil) rfl fun _ hc4=>⟨fun h=>absurd h (by decide),?_⟩
  refine aN 6 127 rfl rfl (P_not rfl) rfl <| aN 7 255 rfl rfl (zbc rfl) rfl <| aD ?_
  first | (refine zao rfl (fun hg1 => ?_) (fun hg1 => ?_)) | (refine zap rfl (fun hg1 => ?_) (fun hg1 => ?_)) | (refine zar rfl (fun hg1 => ?_) (fun hg1 => ?_))
  ·
   refine sR <| oA rfl rfl <| nT <| zaj <| zam <| zae <| zan (res1 Tryz.results24 rfl) ?_
   have e1 := zoy (n:=n) (m:=m) (by
     cases hf:m.find n with
     | none=>rfl
     | some i=>exfalso; simp_all [Md.memS_find])
   rw [e1.2]
   refine CSpec.close c ?_ ?_ (t2_ (t0_ (eD eR)))
   · rw [e1.1]
   · trivial
  ·
   refine zad ?_
   have hfs:(m.find n).isSome=true := by
     have hz:(!memS m.names n)=false := by assumption
     simpa [Md.memS_find] using hz
   have hul := Md.users_len (n:=n) hO
   have hum:((m.usersN n).map c.bs).length=(m.usersN n).length := by simp
   obtain ⟨kf,hfk,hfB⟩ := zst hd3 hfs
   refine zai <| oM rfl rfl <| oV (zag rfl foc1 rfl Tryz.isAgg9) rfl <| oO <| zaq (zl3) rfl Tryz.call57 (Dels.cons del2 (Dels.cons del0 Dels.nil)) rfl fun _ hc6=>oV (V_len rfl foc0 (Reads.sl _ _ _) Tryz.runUnderlying113) rfl <| oP (P_gtr rfl rfl) rfl <| oA rfl rfl <| nT ?_
   first | (refine zao rfl (fun hg2 => ?_) (fun hg2 => ?_)) | (refine zap rfl (fun hg2 => ?_) (fun hg2 => ?_)) | (refine zar rfl (fun hg2 => ?_) (fun hg2 => ?_))
   ·
    refine sR <| oA rfl rfl <| nT <| zaj <| zam <| zae <| zan (res1 Tryz.results24 rfl) ?_
    have e1 := zkb hfk (by omega)
    rw [e1.2]
    refine CSpec.close c ?_ ?_ (t1_ (t1_ (eD (eD eR))))
    · rw [e1.1]
    · trivial
   ·
    refine sR <| oM rfl rfl <| oP (zhc rfl rfl Tryz.underlying85) rfl <| oM rfl rfl <| RJ_gn (GY_no rfl rfl rfl rfl) rfl rfl <| RJ_gn (GY_no rfl rfl rfl rfl) rfl rfl <| RJ_gn (GY_no rfl rfl rfl rfl) rfl rfl <| oP (za5 rfl rfl rfl) rfl <| oA rfl rfl <| nT <| zbf rfl rfl <| za8 <| zak <| zat <| zad <| sR <| oM rfl rfl <| oP (zhc rfl rfl Tryz.underlying85) rfl <| nT <| zbf rfl rfl <| kT <| zad ?_
    have hnb:m.busy kf=false := Md.busy_base hO hfB
    refine zbd (Ent.trans (t2_ eR) (zvp (k:=kf) (Md.find_lt hfk).1)) <| zba (zlj foc1) fun hnd1=>zba (zlj foc0) fun hnd2=>za4 32 (by kernel_rfl) rfl <| aN 0 1 rfl rfl (zah rfl) rfl <| aN 1 3 rfl rfl (zaf rfl) rfl <| aN 2 7 rfl rfl (zaa rfl ⟨_,_,_,Tryz.runUnderlying84,rfl,rfl,Tryz.sizeOf82,rfl⟩) rfl <| aV 3 15 rfl rfl (zac rfl) (t0_ (t0_ (t0_ (t0_ (t0_ (t0_ (t0_ (t0_ (t0_ eR))))))))) (zag rfl foc7 rfl Tryz.isAgg82) rfl <| aV 4 31 rfl rfl (zac rfl) (t0_ (t0_ (t0_ (t0_ (t0_ (t0_ (t0_ (t0_ (t0_ eR))))))))) (zag rfl foc8 rfl Tryz.isAgg9) rfl <| AJ_op 5 63 rfl (by kernel_rfl) rfl (zac rfl) <| zfq (M:=mDev) (k:=n) rfl rfl foc1 zgq <| ⟨fun h=>absurd h (by decide),?_⟩
    refine aD <| zad <| za4 32 (by kernel_rfl) rfl <| aN 0 1 rfl rfl (zah rfl) rfl <| aN 1 3 rfl rfl (zaf rfl) rfl <| aN 2 7 rfl rfl (zaa rfl ⟨_,_,_,Tryz.runUnderlying84,rfl,rfl,Tryz.sizeOf81,rfl⟩) rfl <| aV 3 15 rfl rfl (zac rfl) (t0_ (t0_ (t0_ (t0_ (t0_ (t0_ (t0_ (t0_ (t0_ eR))))))))) (zag rfl foc7 rfl Tryz.isAgg81) rfl <| aV 4 31 rfl rfl (zac rfl) (t0_ (t0_ (t0_ (t0_ (t0_ (t0_ (t0_ (t0_ (t0_ eR))))))))) (zag rfl foc8 rfl Tryz.isAgg9) rfl <| AJ_op 5 63 rfl (by kernel_rfl) rfl (zac rfl) <| zfq (M:=mBas) (k:=n) rfl rfl foc0 zl1 <| ⟨fun h=>absurd h (by decide),?_⟩
    refine aD <| sR <| oM rfl rfl <| oM rfl rfl <| oP (zaf rfl) rfl <| oP (zaa rfl ⟨_,_,_,Tryz.runUnderlying84,rfl,rfl,Tryz.sizeOf59,rfl⟩) rfl <| oV (zag rfl foc7 rfl Tryz.isAgg59) rfl <| oP (zb0 rfl rfl) rfl <| oO <| zaq (zvq (by omega)) rfl Tryz.call59 (Dels.cons del2 (Dels.cons del7 Dels.nil)) rfl fun dx7 hc9=>oP (zaf rfl) rfl <| oP (zaa rfl ⟨_,_,_,Tryz.runUnderlying84,rfl,rfl,Tryz.sizeOf59,rfl⟩) rfl <| oO <| zbh rfl rfl foc8 rfl rfl Tryz.sizeOf59 <| nT <| sR <| oA rfl rfl <| nT <| zaj <| zan (res1 Tryz.results24 rfl) ?_
    have e1 := rm_ok hfk (by omega) hnb
    rw [e1.2]
    refine CSpec.close (c.less m dx7 n kf) ?_ ?_ (Ent.trans (Ent.trans (t5_ (t2_ (t2_ (t0_ (t1_ (t1_ eR)))))) (zpo (ov:=dx7) hW hfk (hO.drop (Md.find_lt hfk).1 (Md.find_lt hfk).2.1 (by rw [(Md.find_lt hfk).2.2]; omega) hnb) hnd1 hnd2)) (t3_ (t0_ (eD (eD eR)))))
    · rw [e1.1]
    · trivial
 ·
  refine ⟨fun _=>(t0_ (t0_ (t0_ eR))),?_⟩
  refine aN 6 127 rfl rfl (zbc rfl) rfl <| aD <| zad <| zas <| zad <| za4 32 (by kernel_rfl) rfl <| aN 0 1 rfl rfl (zah rfl) rfl <| aN 1 3 rfl rfl (zaf rfl) rfl <| aN 2 7 rfl rfl (zaa rfl ⟨_,_,_,Tryz.runUnderlying84,rfl,rfl,Tryz.sizeOf59,rfl⟩) rfl <| aV 3 15 rfl rfl (zac rfl) (t0_ (t0_ (t0_ eR))) (zag rfl foc1 rfl Tryz.isAgg59) rfl <| aV 4 31 rfl rfl (zac rfl) (t0_ (t0_ (t0_ eR))) (zag rfl foc0 rfl Tryz.isAgg9) rfl <| AJ_op 5 63 rfl (by kernel_rfl) rfl (zac rfl) <| zaq (zcb rdOrd (zem (by first | assumption | omega))) rfl Tryz.call56 (Dels.cons del2 Dels.nil) rfl fun _ hc10=>⟨fun h=>absurd h (by decide),?_⟩
  refine aN 6 127 rfl rfl (P_not rfl) rfl <| aN 7 255 rfl rfl (zbc rfl) rfl <| aD ?_
  first | (refine zao rfl (fun hg3 => ?_) (fun hg3 => ?_)) | (refine zap rfl (fun hg3 => ?_) (fun hg3 => ?_)) | (refine zar rfl (fun hg3 => ?_) (fun hg3 => ?_))
  ·
   refine sR <| oA rfl rfl <| nT <| zaj <| zam <| zae <| zan (res1 Tryz.results24 rfl) ?_
   have e1 := zoy (n:=n) (m:=m) (by
     cases hf:m.find n with
     | none=>rfl
     | some i=>exfalso; simp_all [Md.memS_find])
   rw [e1.2]
   refine CSpec.close c ?_ ?_ (t2_ (t0_ (eD eR)))
   · rw [e1.1]
   · trivial
  ·
   refine zad ?_
   have hfs:(m.find n).isSome=true := by
     have hz:(!memS m.names n)=false := by assumption
     simpa [Md.memS_find] using hz
   have hul := Md.users_len (n:=n) hO
   have hum:((m.usersN n).map c.bs).length=(m.usersN n).length := by simp
   have hdk := Md.dev_is hd3
   have hfk := hdk.2
   refine zai <| oM rfl rfl <| oV (zag rfl foc1 rfl Tryz.isAgg9) rfl <| oO <| zaq (zl3) rfl Tryz.call57 (Dels.cons del2 (Dels.cons del0 Dels.nil)) rfl fun _ hc12=>oV (V_len rfl foc0 (Reads.sl _ _ _) Tryz.runUnderlying113) rfl <| oP (P_gtr rfl rfl) rfl <| oA rfl rfl <| nT ?_
   first | (refine zao rfl (fun hg4 => ?_) (fun hg4 => ?_)) | (refine zap rfl (fun hg4 => ?_) (fun hg4 => ?_)) | (refine zar rfl (fun hg4 => ?_) (fun hg4 => ?_))
   ·
    refine sR <| oA rfl rfl <| nT <| zaj <| zam <| zae <| zan (res1 Tryz.results24 rfl) ?_
    have e1 := zkb hfk (by omega)
    rw [e1.2]
    refine CSpec.close c ?_ ?_ (t1_ (t1_ (eD (eD eR))))
    · rw [e1.1]
    · trivial
   ·
    refine sR <| oM rfl rfl <| oP (zgj rfl rfl Tryz.underlying85) rfl <| oM rfl rfl <| gP (zab rfl rfl rfl rfl) (zah rfl) rfl <| gP (zab rfl rfl rfl rfl) (zah rfl) rfl <| RJ_gy (zab rfl rfl rfl rfl) <| zaq (c_busy (Md.dev_is hd3).1) rfl Tryz.call58 (Dels.cons del1 (Dels.cons del1 Dels.nil)) rfl fun _ hc13=>oP (za2 rfl rfl rfl) rfl <| oA rfl rfl <| nT ?_
    first | (refine zao rfl (fun hg5 => ?_) (fun hg5 => ?_)) | (refine zap rfl (fun hg5 => ?_) (fun hg5 => ?_)) | (refine zar rfl (fun hg5 => ?_) (fun hg5 => ?_))
    ·
     refine sR <| oA rfl rfl <| nT <| zaj <| zam <| zae <| zan (res1 Tryz.results24 rfl) ?_
     have e1 := zoz hfk (by omega) (by assumption)
     rw [e1.2]
     refine CSpec.close c ?_ ?_ (t0_ (t0_ (eD (eD eR))))
     · rw [e1.1]
     · trivial
    ·
     refine za8 <| zak <| zat <| zad <| sR <| oM rfl rfl <| oP (zgj rfl rfl Tryz.underlying85) rfl <| nT <| zbk rfl rfl <| zbd (Ent.trans (t1_ eR) (zbl hdk.1)) <| zai <| oM rfl rfl <| oP (zaf rfl) rfl <| oP (zaa rfl ⟨_,_,_,Tryz.runUnderlying111,rfl,rfl,Tryz.sizeOf4,rfl⟩) rfl <| oO <| zbh rfl rfl foc0 rfl rfl Tryz.sizeOf4 <| nT <| zad ?_
     have hnb:m.busy k2=false := by assumption
     refine zbd (Ent.trans (t4_ eR) (fun h hh=>stars_star.1 hh)) <| zba (zlj foc1) fun hnd1=>zba (zlj foc0) fun hnd2=>za4 32 (by kernel_rfl) rfl <| aN 0 1 rfl rfl (zah rfl) rfl <| aN 1 3 rfl rfl (zaf rfl) rfl <| aN 2 7 rfl rfl (zaa rfl ⟨_,_,_,Tryz.runUnderlying84,rfl,rfl,Tryz.sizeOf82,rfl⟩) rfl <| aV 3 15 rfl rfl (zac rfl) (t0_ (t0_ (t0_ (t0_ (t0_ (t0_ (t0_ (t0_ (t0_ (t0_ (t0_ (t0_ (t0_ eR))))))))))))) (zag rfl foc10 rfl Tryz.isAgg82) rfl <| aV 4 31 rfl rfl (zac rfl) (t0_ (t0_ (t0_ (t0_ (t0_ (t0_ (t0_ (t0_ (t0_ (t0_ (t0_ (t0_ (t0_ eR))))))))))))) (zag rfl foc12 rfl Tryz.isAgg9) rfl <| AJ_op 5 63 rfl (by kernel_rfl) rfl (zac rfl) <| zfq (M:=mDev) (k:=n) rfl rfl foc1 zgq <| ⟨fun h=>absurd h (by decide),?_⟩
     refine aD <| zad <| za4 32 (by kernel_rfl) rfl <| aN 0 1 rfl rfl (zah rfl) rfl <| aN 1 3 rfl rfl (zaf rfl) rfl <| aN 2 7 rfl rfl (zaa rfl ⟨_,_,_,Tryz.runUnderlying84,rfl,rfl,Tryz.sizeOf81,rfl⟩) rfl <| aV 3 15 rfl rfl (zac rfl) (t0_ (t0_ (t0_ (t0_ (t0_ (t0_ (t0_ (t0_ (t0_ (t0_ (t0_ (t0_ (t0_ eR))))))))))))) (zag rfl foc10 rfl Tryz.isAgg81) rfl <| aV 4 31 rfl rfl (zac rfl) (t0_ (t0_ (t0_ (t0_ (t0_ (t0_ (t0_ (t0_ (t0_ (t0_ (t0_ (t0_ (t0_ eR))))))))))))) (zag rfl foc12 rfl Tryz.isAgg9) rfl <| AJ_op 5 63 rfl (by kernel_rfl) rfl (zac rfl) <| zfq (M:=mBas) (k:=n) rfl rfl foc0 zl1 <| ⟨fun h=>absurd h (by decide),?_⟩
     refine aD <| sR <| oM rfl rfl <| oM rfl rfl <| oP (zaf rfl) rfl <| oP (zaa rfl ⟨_,_,_,Tryz.runUnderlying84,rfl,rfl,Tryz.sizeOf59,rfl⟩) rfl <| oV (zag rfl foc10 rfl Tryz.isAgg59) rfl <| oP (zb0 rfl rfl) rfl <| oO <| zaq (zvq (by omega)) rfl Tryz.call59 (Dels.cons del2 (Dels.cons del11 Dels.nil)) rfl fun dx14 hc16=>oP (zaf rfl) rfl <| oP (zaa rfl ⟨_,_,_,Tryz.runUnderlying84,rfl,rfl,Tryz.sizeOf59,rfl⟩) rfl <| oO <| zbh rfl rfl foc11 rfl rfl Tryz.sizeOf59 <| nT <| sR <| oA rfl rfl <| nT <| zaj <| zan (res1 Tryz.results24 rfl) ?_
     have e1 := rm_ok hfk (by omega) hnb
     rw [e1.2]
     refine CSpec.close (c.less m dx14 n k2) ?_ ?_ (Ent.trans (Ent.trans (t5_ (t2_ (t2_ (t0_ (t1_ (t1_ eR)))))) (zpo (ov:=dx14) hW hfk (hO.drop (Md.find_lt hfk).1 (Md.find_lt hfk).2.1 (by rw [(Md.find_lt hfk).2.2]; omega) hnb) hnd1 hnd2)) (t6_ (t0_ (eD (eD (eD (eD (eD (eD eR)))))))))
     · rw [e1.1]
     · trivial
end Go.Proofs
namespace Go.Proofs
namespace Md
section
variable {m m2:Md} {k i:Nat} {x:Wt} {n:ByteArray}
def rs0 (m:Md) (k:Nat):Md := m.set k { rsX (m.at k) with susp := false,wait := [] }
theorem ok_rs0 (hO:MdOk m) (hk:m.isDx k):MdOk (m.rs0 k) := by
  obtain ⟨rk,hr⟩ := hO.acy
  have hx:rsX (m.at k)=m.at k∨((m.at k).hn=true∧rsX (m.at k) = { m.at k with live := (m.at k).new,hl := true,new := [],hn := false }) := by
    unfold rsX
    cases h:(m.at k).hn
    · exact .inl (by simp)
    · exact .inr ⟨rfl,by simp⟩
  have hs:∀ t ∈ tbl { rsX (m.at k) with susp := false,wait := [] },t ∈ tbl (m.at k) := fun t ht=>by
    rcases hx with h | ⟨_,h⟩
    · rw [h] at ht; exact ht
    · rw [h] at ht
      have:t ∈ (m.at k).new := by simpa [tbl] using ht
      exact List.mem_append.2 (.inr this)
  have hkey:key { rsX (m.at k) with susp := false,wait := [] } = key (m.at k) := by
    rcases hx with h | ⟨_,h⟩ <;> rw [h] <;> rfl
  refine hO.set (d' := { rsX (m.at k) with susp := false,wait := [] }) hk rfl hkey ?_ ?_ (fun t ht hne=>hO.nam k hk.1 hk.2.1 t (hs t ht) hne) ⟨rk,zka hk.1 rfl hkey hs hr⟩ ?_ ?_ (fun w hw=>by cases hw)
  · rcases hx with h | ⟨_,h⟩ <;> rw [h] <;> exact hk.2.2
  · rcases hx with h | ⟨_,h⟩ <;> rw [h]
    · exact hO.chk k
    · exact ⟨(hO.chk k).2,rfl⟩
  · rcases hx with h | ⟨_,h⟩ <;> rw [h]
    · exact hO.hl k
    · exact fun h=>by cases h
  · rcases hx with h | ⟨_,h⟩ <;> rw [h]
    · exact hO.hn k
    · exact fun _=>rfl
theorem zkc (hl:m2.dv.length=m.dv.length) (h:∀ i,(m2.at i).wait=(m.at i).wait):m2.wsum=m.wsum := by
  unfold wsum
  congr 1
  refine List.ext_getElem (by simp [hl]) fun i h1 h2 => ?_
  simp only [List.length_map] at h1 h2
  have := congrArg List.length (h i)
  simpa [Md.at,List.getD,h1,h2] using this
structure RsK (m m2:Md) (i:Nat):Prop where
  like:Like m m2
  tks:m2.tks=m.tks
  cl:m2.cl=m.cl
  told:m2.told.length≤m.told.length + i
  wr:m2.wr≤m.wr + i
  wsum:m2.wsum≤m.wsum + i
theorem RsK.refl:RsK m m 0 := ⟨.refl,rfl,rfl,Nat.le_refl _,Nat.le_refl _,Nat.le_refl _⟩
theorem RsK.step (h:RsK m m2 i):RsK m (m2.rsT x) (i + 1) := by
  have h3 := h.told; have h4 := h.wr; have h5 := h.wsum
  unfold rsT
  split
  · rename_i w _
    refine ⟨h.like.trans (Like.set (m:=m2) (k:=w) (d' := { m2.at w with wait := (m2.at w).wait ++ [x] }) ⟨rfl,rfl,rfl,rfl,rfl,rfl,rfl,rfl⟩),h.tks,h.cl,Nat.le_succ_of_le h3,Nat.le_succ_of_le h4,?_⟩
    refine Nat.le_trans ?_ (Nat.succ_le_succ h5)
    by_cases hw:w < m2.dv.length
    · have := zis m2.dv w { m2.at w with wait := (m2.at w).wait ++ [x] } hw
      have e:(m2.dv.getD w Dv.z).wait.length=(m2.at w).wait.length := rfl
      rw [List.length_append,List.length_singleton] at this
      show ((m2.dv.set w _).map fun d=>d.wait.length).sum≤(m2.dv.map fun d=>d.wait.length).sum + 1
      omega
    · show ((m2.dv.set w _).map fun d=>d.wait.length).sum≤(m2.dv.map fun d=>d.wait.length).sum + 1
      rw [List.set_eq_of_length_le (by omega)]; omega
  · have hK := carry_kept (m:=m2) (m2.dv.length + 1) x.gv x.t
    have e := zkc hK.like.len hK.wait
    refine ⟨h.like.trans ⟨hK.like.len,hK.like.at_⟩,hK.tks.trans h.tks,hK.cl.trans h.cl,?_,Nat.le_trans hK.wr (Nat.succ_le_succ h4),?_⟩
    · show ((m2.carryk x.gv x.t).2.told ++ [_]).length≤_
      rw [List.length_append,show (m2.carryk x.gv x.t).2.told=m2.told from hK.told]
      simp; omega
    · show (m2.carryk x.gv x.t).2.wsum≤_
      rw [show (m2.carryk x.gv x.t).2.wsum=m2.wsum from e]; omega
theorem RsK.foldl:∀ (l:List Wt) {i:Nat} {m2:Md},RsK m m2 i→RsK m (l.foldl rsT m2) (i + l.length)
  | [],_,_,h=>h
  | x::l,i,m2,h=>by
    have := RsK.foldl l (h.step (x:=x))
    rw [List.length_cons,show i + (l.length + 1)=i + 1 + l.length by omega]
    exact this
theorem rs0_wsum (hk:k < m.dv.length):(m.rs0 k).wsum + (m.at k).wait.length=m.wsum := by
  have := zis m.dv k { rsX (m.at k) with susp := false,wait := [] } hk
  have e:(m.dv.getD k Dv.z).wait.length=(m.at k).wait.length := rfl
  rw [e] at this
  exact this
theorem zlk (h:m.dev n=some k):k < m.dv.length := by
  unfold dev at h
  cases hf:m.find n with
  | none=>rw [hf] at h; cases h
  | some j =>
    rw [hf] at h
    have := find_lt0 hf
    cases hb:(m.at j).isB
    · simp [hb] at h; omega
    · simp [hb] at h
theorem bd_rs (h:MdBd m) (hc:m.cl < 4000):MdBd (m.rsS n).tick := by
  have h1 := h.tks; have h2 := h.told; have h3 := h.wr; have h4 := h.len; have h5 := h.wl
  unfold rsS
  cases hd:m.dev n with
  | none=>exact zdj h hc
  | some k =>
    show MdBd (Md.tick (if m.rsE n=0 then (m.at k).wait.foldl rsT (m.rs0 k) else m))
    split
    · have hk := zlk hd
      have hK := (RsK.refl (m:=m.rs0 k)).foldl (m.at k).wait
      rw [Nat.zero_add] at hK
      have hw := rs0_wsum (m:=m) hk
      have g1 := hK.wsum; have g2 := hK.told; have g3 := hK.wr; have g4 := hK.tks; have g5 := hK.cl; have g6 := hK.like.len
      have e1:(m.rs0 k).tks=m.tks := rfl
      have e2:(m.rs0 k).cl=m.cl := rfl
      have e3:(m.rs0 k).told=m.told := rfl
      have e4:(m.rs0 k).wr=m.wr := rfl
      have e5:(m.rs0 k).dv.length=m.dv.length := by show (m.dv.set k _).length=_; simp
      rw [e3] at g2
      show MdBd ((m.at k).wait.foldl rsT (m.rs0 k)).tick
      generalize (m.at k).wait.foldl rsT (m.rs0 k)=z at *
      exact ⟨by show z.wsum≤z.tks; omega,by show z.tks≤z.cl + 1; omega,by show z.told.length≤4000 * (z.cl + 1); omega,by show z.wr≤4000 * (z.cl + 1); omega,by show z.dv.length≤z.cl + 1 + 2; omega,by show z.cl + 1≤4000; omega⟩
    · exact zdj h hc
theorem ztp {l:List Wt} (hi:i < l.length):(l.take (i + 1)).foldl rsT m=((l.take i).foldl rsT m).rsT (l.getD i Wt.z) := by
  have e:l.take (i + 1)=l.take i ++ [l.getD i Wt.z] := by rw [List.take_succ_eq_append_getElem hi]; simp [List.getD,hi]
  rw [e,List.foldl_append]; rfl
theorem rsT_way {w:Nat} (h:m.wayk x.gv x.t=some w):m.rsT x=m.addW w x := by unfold rsT; rw [h]
theorem rsT_go (h:m.wayk x.gv x.t=none):m.rsT x = { (m.carryk x.gv x.t).2 with told := (m.carryk x.gv x.t).2.told ++ [⟨true,(x.tk:Int),(m.carryk x.gv x.t).1.1,(m.carryk x.gv x.t).1.2⟩] } := by unfold rsT; rw [h]
theorem rs_none (h:m.dev n=none):m.rsE n=12∧m.rsS n=m := by unfold rsE rsS; rw [h]; exact ⟨rfl,rfl⟩
theorem rsS_no (h:m.rsE n≠0):m.rsS n=m := by
  unfold rsS
  cases m.dev n with
  | none=>rfl
  | some k=>exact if_neg h
theorem rs_state (h:m.dev n=some k) (h1:(m.at k).susp=false∨((m.at k).hl=false∧(m.at k).hn=false)):m.rsE n=20 := by unfold rsE; rw [h]; exact if_pos h1
theorem rs_fit (h:m.dev n=some k) (h1:¬ ((m.at k).susp=false∨((m.at k).hl=false∧(m.at k).hn=false))) (h2:(m.at k).hn=true∧(m.needs k (tsize (m.at k).new)=false∨m.fits (m.at k).new=false)):m.rsE n=1 := by
  unfold rsE; rw [h]; show (if _ then _ else _)=_; rw [if_neg h1,if_pos h2]
theorem rs_ok (h:m.dev n=some k) (h1:¬ ((m.at k).susp=false∨((m.at k).hl=false∧(m.at k).hn=false))) (h2:¬ ((m.at k).hn=true∧(m.needs k (tsize (m.at k).new)=false∨m.fits (m.at k).new=false))):m.rsE n=0∧m.rsS n=(m.at k).wait.foldl rsT (m.rs0 k) := by
  have e:m.rsE n=0 := by unfold rsE; rw [h]; show (if _ then _ else _)=_; rw [if_neg h1,if_neg h2]
  exact ⟨e,by unfold rsS; rw [h]; exact if_pos e⟩
end
end Md
end Go.Proofs
