/- MapperCalls, part 6 of the proof: CMap17, CMap18, CMap19, PMapP, CMap20, CRf0, CRf1, CRf2, CRf3, CRf4, CRf5. -/
import Derived.WalkKit
import Derived.Orders
import Derived.RangeFuncLeaves
import Derived.RangeFuncCalls
import Derived.TacticsIn
import Derived.Handy
import Derived.OrdersHeld
import Derived.OrdersIn
import Derived.Below
import Derived.OpenShut
import Derived.Deep.Slices
import Derived.Scope
import Derived.RangeFuncRecord
import Derived.ChangeKeysEq
import Derived.Laws.BytesArg
import Derived.KernelRfl
import Derived.Maps.RangeRun
import Derived.LaidEql
import Derived.ProofKit
import Derived.ShutString
import Derived.ChangeOld
import Derived.Test.YtbmipeiphoghcaaGreatChecked
import Derived.Test.YtbmipeiphoghcaaGreatRows
import Derived.Test.YtbmipeiphoghcaaGreatZMapperCalls5
set_option linter.unusedSimpArgs false
set_option maxRecDepth 20000
namespace Go.Proofs
open Go.VG
theorem zh3 (v0:Int) (v1:(Option Addr)) (v2:Int) (v3:Int) (v4:Int):zbt Tryz.prog 109 1 [(0,.agg #[.int .i64 v0,.pointer v1,.int .i64 v2,.int .i64 v3,.int .u64 v4])] 135 [.int .i64 v0,.pointer v1,.int .i64 v2,.int .i64 v3,.int .u64 v4] := fun w=>by kernel_rfl
theorem zfh (v0:Bool) (v1:Int) (v2:Int) (v3:Int):zbt Tryz.prog 54 1 [(0,.agg #[.bool v0,.int .i64 v1,.int .u64 v2,.int .i64 v3])] 51 [.bool v0,.int .i64 v1,.int .u64 v2,.int .i64 v3] := fun w=>by kernel_rfl
theorem zrd {P:Program} {n:Env} {W:World} {l:List Oper} {Q:Exit→Act→World→Prop} {Hr H:List HP} {tl fuel m:Nat} {s:Slots} {T:TypeId} {z:Value} {zs:List Value} {d:Nat} {ty:TypeId} {pos:String} {after:Array Edge} {g:Option (Nat × Bool)} (i m':Nat) (hi:l[i]? = some ⟨some d,.alloc T,ty,pos,after,g⟩) (hr:zfe l.toArray m [i]=true) (hm':m ||| 2 ^ i=m') (hg:GY l.toArray s ⟨some d,.alloc T,ty,pos,after,g⟩ true)
    (hz:∀ w,(zeroValue T).run P w = .ok z w) (hc:z.cells=zs.toArray) (hd:Nat.blt d n.n=true) (h:∀ b,AJ P n W l Q Hr tl fuel m' ((d,ptr b 0)::s) (blk b T zs::H)):AJ P n W l Q Hr tl (fuel + 1) m s H := by
  intro a w hf hs
  have hr':Region.ready .any l.toArray (zcu l.toArray.size m)=[i] := by simpa [zfe] using hr
  refine ⟨fun h0=>(by rw [hr'] at h0; cases h0),fun j hj => ?_⟩
  rw [hr'] at hj
  have:j=i := by simpa using hj
  subst this
  rw [zer,hm']
  have hi':l.toArray[j]? = some ⟨some d,.alloc T,ty,pos,after,g⟩ := by simpa using hi
  have hrun:(execOp a.eval ⟨some d,.alloc T,ty,pos,after,g⟩).run P w = .ok (.value (ptr w.heap.size 0)) (w.alloc (.cells zs.toArray T)) := by simp [execOp,Instr.alloc,hz,newVar,newRow,hc]
  unfold wpOp
  simp only [hi',hg n a hf,if_true]
  refine .inl ?_
  unfold Oper.wp
  rw [hrun]
  exact ⟨fun _ hS=>(hS.alloc _).imp (Ent.drop Ent.refl),h _ _ _ (hf.put hd _) (hs.alloc _)⟩
theorem zvr {bs:Nat→Nat} {l:List Wt} {i:Nat} (hi:i < l.length):Value.agg #[.int .i64 ((l.getD i Wt.z).tk:Int),ptr (bs (l.getD i Wt.z).gv) 0,.int .i64 (l.getD i Wt.z).t.Kind,.int .i64 (l.getD i Wt.z).t.At,.int .u64 ((l.getD i Wt.z).t.Value.toNat:Int)]=Value.agg (tyErr.enc ((l.map (wC bs)).getD i tyErr.dflt)).toArray := by
  have:(l.map (wC bs)).getD i tyErr.dflt=wC bs (l.getD i Wt.z) := by simp [List.getD,hi]
  rw [this]; rfl
namespace Md
section
variable {m:Md} {k i:Nat}
def rsI (m:Md) (k i:Nat):Md := ((m.at k).wait.take i).foldl rsT (m.rs0 k)
theorem rsI_zero:m.rsI k 0=m.rs0 k := by unfold rsI; rw [List.take_zero]; rfl
theorem rsI_succ (hi:i < (m.at k).wait.length):m.rsI k (i + 1)=(m.rsI k i).rsT ((m.at k).wait.getD i Wt.z) := ztp hi
theorem rsI_end:m.rsI k (m.at k).wait.length=(m.at k).wait.foldl rsT (m.rs0 k) := by unfold rsI; rw [List.take_length]
theorem rsI_K (hi:i≤(m.at k).wait.length):RsK (m.rs0 k) (m.rsI k i) i := by
  have := (RsK.refl (m:=m.rs0 k)).foldl ((m.at k).wait.take i)
  rw [Nat.zero_add,List.length_take,Nat.min_eq_left hi] at this
  exact this
theorem rs0_at (hk:k < m.dv.length) (j:Nat):((m.rs0 k).at j).gone=(m.at j).gone∧((m.rs0 k).at j).isB=(m.at j).isB∧((m.rs0 k).at j).name=(m.at j).name := by
  unfold rs0
  rw [at_set hk]
  by_cases e:j=k
  · subst e; rw [if_pos rfl]
    unfold rsX
    split <;> exact ⟨rfl,rfl,rfl⟩
  · rw [if_neg e]; exact ⟨rfl,rfl,rfl⟩
theorem rsI_isD (hk:k < m.dv.length) (hi:i≤(m.at k).wait.length) {j:Nat} (hj:m.isD j):(m.rsI k i).isD j := by
  have h := (rsI_K hi).like
  obtain ⟨g1,g2,_⟩ := rs0_at hk j
  exact ⟨by rw [h.len]; show j < (m.dv.set k _).length; rw [List.length_set]; exact hj.1,((h.at_ j).gone.trans g1).trans hj.2.1,((h.at_ j).isB.trans g2).trans hj.2.2⟩
theorem org_at (hO:MdOk m) (hk:k < m.dv.length) (hi:i < (m.at k).wait.length):m.isD ((m.at k).wait.getD i Wt.z).gv∧1≤((m.at k).wait.getD i Wt.z).t.Kind∧((m.at k).wait.getD i Wt.z).t.Kind≤3∧inT ((m.at k).wait.getD i Wt.z).t := by
  obtain ⟨_,h1,h2,h3,h4,h5,h6⟩ := hO.org k hk _ (zb9 Wt.z hi)
  exact ⟨⟨h1,h2,h3⟩,h4,h5,h6⟩
end
end Md
theorem zxq {W:World} {b:Nat} {c:MH} {m:Md} {n:ByteArray} (hwr:m.wr + m.wsum < 100000000) (hto:m.told.length + m.wsum < 100000000) (hws:m.wsum < 100000) :
    CSpec Tryz.prog W 34 [ptr b 0,.string n] [blk b 84 (za3 c m),MapR c m] (fun _:MH => .int .i64 (m.rsE n)) (fun _=>True) (fun c2 F=>blk b 84 (za3 c2 (m.rsS n))::MapR c2 (m.rsS n)::F) := by
 refine CSpec.of_body Tryz.func34 rfl Tryz.ntmps34 rfl fun F => ?_
 show CJ _ _ _ _ _ _ (_::_::F)
 refine zba (zb4 foc1) fun hW => ?_
 have hO := hW.ok
 have hns := Md.names_len (m:=m)
 have hln := hW.big.len
 refine sR <| oA rfl rfl <| nT <| sR <| oM rfl rfl <| oP (zaf rfl) rfl <| oP (zaa rfl ⟨_,_,_,Tryz.runUnderlying84,rfl,rfl,Tryz.sizeOf82,rfl⟩) rfl <| oV (zag rfl foc0 rfl Tryz.isAgg82) rfl <| oM rfl rfl <| oO (zeb rfl rfl foc1 rfl (fun hd2 => ?_) (fun k1 hd2 => ?_))
 ·
  refine oA rfl rfl <| nT <| zjc (X:=Unit) [4,17,18,19,20,21,22,23,24,25,26,27,28,29,30,31,32,33,34,35,36,37,38,39,40,41,42,43,44,45,46,47,48,49,50,51,52,53,54,55,56,57,58,59,60,61,62,63,64] (fun _=>([]:Slots)) (fun _ R=>R) (fun _=>False) Dels.nil ?_ ?_
  ·
   refine zas <| sR <| oM rfl rfl <| oP (zgk rfl rfl Tryz.underlying85) rfl <| oA rfl rfl <| nT <| zbk rfl rfl <| sR <| oA rfl rfl <| nT <| zaj <| zam <| zae <| zan (res1 Tryz.results34 rfl) ?_
   have e1 := Md.rs_none hd2
   rw [e1.2]
   refine CSpec.close c ?_ ?_ (t0_ (t0_ eR))
   · rw [e1.1]
   · trivial
  ·
   intro _ hpf
   show CJ _ _ _ _ _ (([]:Slots) ++ forget _ _) (_)
   exact hpf.elim
 ·
  refine oA rfl rfl <| nT <| zjc (X:=Unit) [4,17,18,19,20,21,22,23,24,25,26,27,28,29,30,31,32,33,34,35,36,37,38,39,40,41,42,43,44,45,46,47,48,49,50,51,52,53,54,55,56,57,58,59,60,61,62,63,64] (fun _=>([]:Slots)) (fun _ R=>blk b 84 (za3 c m)::MapR c m::R) (fun _ => ¬ ((m.at k1).susp=false∨((m.at k1).hl=false∧(m.at k1).hn=false)) ∧ ¬ ((m.at k1).hn=true∧(m.needs k1 (tsize (m.at k1).new)=false∨m.fits (m.at k1).new=false))) (Dels.cons del0 (Dels.cons del0 Dels.nil)) ?_ ?_
  ·
   refine zas <| sR <| oM rfl rfl <| oP (zd3 rfl rfl Tryz.underlying85) rfl <| oA rfl rfl <| nT <| zbf rfl rfl <| zad ?_
   have hdk := Md.dev_is hd2
   have hch2 := zbx (hO.chk k1).2
   have hwl := m.wait_le k1
   refine zai <| oM rfl rfl <| oP (zaf rfl) rfl <| oP (zaa rfl ⟨_,_,_,Tryz.runUnderlying111,rfl,rfl,Tryz.sizeOf4,rfl⟩) rfl <| oV (zby (Ent.trans (t1_ eR) (zbl (Md.dev_is hd2).1)) (zag rfl foc0 rfl Tryz.isAgg4)) rfl <| oP (P_not rfl) rfl <| oM rfl rfl ?_
   first | (refine zbp 26 rfl (fun hg1B hg1 => ?_) (fun hg1B hg1 => ?_)) | (refine zbq 26 rfl (fun hg1B hg1 => ?_) (fun hg1B hg1 => ?_)) | (refine zbr 26 rfl (fun hg1B => ?_) (fun hg1B => ?_))
   ·
    refine RJ_gn (GY_no rfl rfl rfl hg1B) rfl rfl <| RJ_gn (GY_no rfl rfl rfl hg1B) rfl rfl <| RJ_gn (GY_no rfl rfl rfl hg1B) rfl rfl <| RJ_gn (GY_no rfl rfl rfl hg1B) rfl rfl <| RJ_gn (GY_no rfl rfl rfl hg1B) rfl rfl <| RJ_gn (GY_no rfl rfl rfl hg1B) rfl rfl <| RJ_gn (zbu rfl rfl rfl) rfl rfl <| RJ_gn (zbu rfl rfl rfl) rfl rfl <| RJ_gn (zbu rfl rfl rfl) rfl rfl <| RJ_gn (zbu rfl rfl rfl) rfl rfl <| RJ_gn (zbu rfl rfl rfl) rfl rfl <| RJ_gn (GY_no rfl rfl rfl hg1B) rfl rfl <| oP (za2 rfl hg1B rfl) rfl <| oA rfl rfl <| nT <| zbk rfl rfl <| sR <| oA rfl rfl <| nT <| zaj <| zam <| zae <| zan (res1 Tryz.results34 rfl) ?_
    have e1 := (fun z=>(⟨z,Md.rsS_no (by rw [z]; decide)⟩:m.rsE n=20∧m.rsS n=m)) (Md.rs_state hd2 (by simp_all))
    rw [e1.2]
    refine CSpec.close c ?_ ?_ (t0_ (t0_ eR))
    · rw [e1.1]
    · trivial
   ·
    refine gP (zab rfl rfl rfl hg1B) (zah rfl) rfl <| gP (zab rfl rfl rfl hg1B) (zaf rfl) rfl <| gP (zab rfl rfl rfl hg1B) (zaa rfl ⟨_,_,_,Tryz.runUnderlying111,rfl,rfl,Tryz.sizeOf4,rfl⟩) rfl <| gV (zab rfl rfl rfl hg1B) (zby (Ent.trans (t1_ eR) (zbl (Md.dev_is hd2).1)) (zag rfl foc0 rfl Tryz.isAgg4)) rfl <| gP (zab rfl rfl rfl hg1B) (P_not rfl) rfl <| gP (zab rfl rfl rfl hg1B) (zah rfl) rfl ?_
    first | (refine zbp 32 rfl (fun hg2B hg2 => ?_) (fun hg2B hg2 => ?_)) | (refine zbq 32 rfl (fun hg2B hg2 => ?_) (fun hg2B hg2 => ?_)) | (refine zbr 32 rfl (fun hg2B => ?_) (fun hg2B => ?_))
    ·
     refine gP (zab rfl rfl rfl hg2B) (zah rfl) rfl <| gP (zab rfl rfl rfl hg2B) (zaf rfl) rfl <| gP (zab rfl rfl rfl hg2B) (zaa rfl ⟨_,_,_,Tryz.runUnderlying111,rfl,rfl,Tryz.sizeOf4,rfl⟩) rfl <| gV (zab rfl rfl rfl hg2B) (zby (Ent.trans (t1_ eR) (zbl (Md.dev_is hd2).1)) (zag rfl foc0 rfl Tryz.isAgg4)) rfl <| gP (zab rfl rfl rfl hg2B) (P_not rfl) rfl <| gP (zab rfl rfl rfl hg1B) (za2 rfl hg2B rfl) rfl <| oP (za5 rfl hg1B rfl) rfl <| oA rfl rfl <| nT ?_
     first | (refine zao rfl (fun hg3 => ?_) (fun hg3 => ?_)) | (refine zap rfl (fun hg3 => ?_) (fun hg3 => ?_)) | (refine zar rfl (fun hg3 => ?_) (fun hg3 => ?_))
     ·
      refine sR <| oA rfl rfl <| nT <| zaj <| zam <| zae <| zan (res1 Tryz.results34 rfl) ?_
      have e1 := (fun z=>(⟨z,Md.rsS_no (by rw [z]; decide)⟩:m.rsE n=20∧m.rsS n=m)) (Md.rs_state hd2 (by simp_all))
      rw [e1.2]
      refine CSpec.close c ?_ ?_ (t0_ (t0_ eR))
      · rw [e1.1]
      · trivial
     ·
      refine sR <| oM rfl rfl <| oP (zaf rfl) rfl <| oP (zaa rfl ⟨_,_,_,Tryz.runUnderlying111,rfl,rfl,Tryz.sizeOf4,rfl⟩) rfl <| oV (zby (Ent.trans (t1_ eR) (zbl (Md.dev_is hd2).1)) (zag rfl foc0 rfl Tryz.isAgg4)) rfl <| oM rfl rfl ?_
      first | (refine zbp 45 rfl (fun hg4B hg4 => ?_) (fun hg4B hg4 => ?_)) | (refine zbq 45 rfl (fun hg4B hg4 => ?_) (fun hg4B hg4 => ?_)) | (refine zbr 45 rfl (fun hg4B => ?_) (fun hg4B => ?_))
      ·
       refine gP (zab rfl rfl rfl hg4B) (zah rfl) rfl <| gP (zab rfl rfl rfl hg4B) (zah rfl) rfl <| gP (zab rfl rfl rfl hg4B) (zah rfl) rfl <| gP (zab rfl rfl rfl hg4B) (zaf rfl) rfl <| gP (zab rfl rfl rfl hg4B) (zaa rfl ⟨_,_,_,Tryz.runUnderlying111,rfl,rfl,Tryz.sizeOf30,rfl⟩) rfl <| gV (zab rfl rfl rfl hg4B) (zby (Ent.trans (t1_ eR) (zbl (Md.dev_is hd2).1)) (zag rfl foc0 rfl Tryz.isAgg30)) rfl <| RJ_gy (zab rfl rfl rfl hg4B) <| zaq (ziq (rdNew (Md.dev_is hd2).1) zos) rfl Tryz.call81 (Dels.cons del1 Dels.nil) rfl fun _ hc3=>RJ_gy (zab rfl rfl rfl hg4B) <| zaq (zq1 (Md.dev_is hd2).1) rfl Tryz.call80 (Dels.cons del1 (Dels.cons del0 Dels.nil)) rfl fun _ hc4=>gP (zab rfl rfl rfl hg4B) (P_not rfl) rfl <| gP (zab rfl rfl rfl hg4B) (zah rfl) rfl ?_
       first | (refine zbp 55 rfl (fun hg5B hg5 => ?_) (fun hg5B hg5 => ?_)) | (refine zbq 55 rfl (fun hg5B hg5 => ?_) (fun hg5B hg5 => ?_)) | (refine zbr 55 rfl (fun hg5B => ?_) (fun hg5B => ?_))
       ·
        refine RJ_gn (GY_no rfl rfl rfl hg5B) rfl rfl <| RJ_gn (GY_no rfl rfl rfl hg5B) rfl rfl <| RJ_gn (GY_no rfl rfl rfl hg5B) rfl rfl <| RJ_gn (GY_no rfl rfl rfl hg5B) rfl rfl <| RJ_gn (GY_no rfl rfl rfl hg5B) rfl rfl <| RJ_gn (GY_no rfl rfl rfl hg5B) rfl rfl <| RJ_gn (GY_no rfl rfl rfl hg5B) rfl rfl <| gP (zab rfl rfl rfl hg4B) (za2 rfl hg5B rfl) rfl <| oP (za2 rfl hg4B rfl) rfl <| oA rfl rfl <| nT <| zbk rfl rfl <| sR <| oA rfl rfl <| nT <| zaj <| zam <| zae <| zan (res1 Tryz.results34 rfl) ?_
        have e1 := (fun z=>(⟨z,Md.rsS_no (by rw [z]; decide)⟩:m.rsE n=1∧m.rsS n=m)) (Md.rs_fit hd2 (by simp_all) (by simp_all))
        rw [e1.2]
        refine CSpec.close c ?_ ?_ (t0_ (t0_ eR))
        · rw [e1.1]
        · trivial
       ·
        refine gP (zab rfl rfl rfl hg5B) (zah rfl) rfl <| gP (zab rfl rfl rfl hg5B) (zah rfl) rfl <| gP (zab rfl rfl rfl hg5B) (zaf rfl) rfl <| gP (zab rfl rfl rfl hg5B) (zaa rfl ⟨_,_,_,Tryz.runUnderlying111,rfl,rfl,Tryz.sizeOf30,rfl⟩) rfl <| gV (zab rfl rfl rfl hg5B) (zby (Ent.trans (t1_ eR) (zbl (Md.dev_is hd2).1)) (zag rfl foc0 rfl Tryz.isAgg30)) rfl <| RJ_gy (zab rfl rfl rfl hg5B) <| zaq (zsn (rdNew hdk.1) (by omega) (fun x hx=>⟨fun hne=>hO.nam _ hdk.1.1 hdk.1.2.1 x (List.mem_append.2 (.inr hx)) hne,zej (hO.chk _).2 hx⟩)) rfl Tryz.call73 (Dels.cons del0 (Dels.cons del0 Dels.nil)) rfl fun _ hc5=>gP (zab rfl rfl rfl hg5B) (P_not rfl) rfl <| gP (zab rfl rfl rfl hg4B) (za5 rfl hg5B rfl) rfl <| oP (za2 rfl hg4B rfl) rfl <| oA rfl rfl <| nT ?_
        first | (refine zao rfl (fun hg6 => ?_) (fun hg6 => ?_)) | (refine zap rfl (fun hg6 => ?_) (fun hg6 => ?_)) | (refine zar rfl (fun hg6 => ?_) (fun hg6 => ?_))
        ·
         refine sR <| oA rfl rfl <| nT <| zaj <| zam <| zae <| zan (res1 Tryz.results34 rfl) ?_
         have e1 := (fun z=>(⟨z,Md.rsS_no (by rw [z]; decide)⟩:m.rsE n=1∧m.rsS n=m)) (Md.rs_fit hd2 (by simp_all) (by simp_all))
         rw [e1.2]
         refine CSpec.close c ?_ ?_ (t0_ (t0_ eR))
         · rw [e1.1]
         · trivial
        ·
         exact za8 <| zak <| cR () ⟨by simp_all,by simp_all⟩ True.intro (t0_ (t0_ eR))
      ·
       exact RJ_gn (GY_no rfl rfl rfl hg4B) rfl rfl <| RJ_gn (GY_no rfl rfl rfl hg4B) rfl rfl <| RJ_gn (GY_no rfl rfl rfl hg4B) rfl rfl <| RJ_gn (GY_no rfl rfl rfl hg4B) rfl rfl <| RJ_gn (GY_no rfl rfl rfl hg4B) rfl rfl <| RJ_gn (GY_no rfl rfl rfl hg4B) rfl rfl <| RJ_gn (GY_no rfl rfl rfl hg4B) rfl rfl <| RJ_gn (GY_no rfl rfl rfl hg4B) rfl rfl <| RJ_gn (GY_no rfl rfl rfl hg4B) rfl rfl <| RJ_gn (GY_no rfl rfl rfl hg4B) rfl rfl <| RJ_gn (zbu rfl rfl rfl) rfl rfl <| RJ_gn (zbu rfl rfl rfl) rfl rfl <| RJ_gn (zbu rfl rfl rfl) rfl rfl <| RJ_gn (zbu rfl rfl rfl) rfl rfl <| RJ_gn (zbu rfl rfl rfl) rfl rfl <| RJ_gn (zbu rfl rfl rfl) rfl rfl <| RJ_gn (zbu rfl rfl rfl) rfl rfl <| RJ_gn (GY_no rfl rfl rfl hg4B) rfl rfl <| oP (za5 rfl hg4B rfl) rfl <| oA rfl rfl <| nT <| zbf rfl rfl <| za8 <| zak <| cR () ⟨by simp_all,by simp_all⟩ True.intro (t0_ (t0_ eR))
    ·
     refine RJ_gn (GY_no rfl rfl rfl hg2B) rfl rfl <| RJ_gn (GY_no rfl rfl rfl hg2B) rfl rfl <| RJ_gn (GY_no rfl rfl rfl hg2B) rfl rfl <| RJ_gn (GY_no rfl rfl rfl hg2B) rfl rfl <| RJ_gn (GY_no rfl rfl rfl hg2B) rfl rfl <| gP (zab rfl rfl rfl hg1B) (za5 rfl hg2B rfl) rfl <| oP (za5 rfl hg1B rfl) rfl <| oA rfl rfl <| nT <| zbf rfl rfl <| sR <| oM rfl rfl <| oP (zaf rfl) rfl <| oP (zaa rfl ⟨_,_,_,Tryz.runUnderlying111,rfl,rfl,Tryz.sizeOf4,rfl⟩) rfl <| oV (zby (Ent.trans (t1_ eR) (zbl (Md.dev_is hd2).1)) (zag rfl foc0 rfl Tryz.isAgg4)) rfl <| oM rfl rfl ?_
     first | (refine zbp 45 rfl (fun hg7B hg7 => ?_) (fun hg7B hg7 => ?_)) | (refine zbq 45 rfl (fun hg7B hg7 => ?_) (fun hg7B hg7 => ?_)) | (refine zbr 45 rfl (fun hg7B => ?_) (fun hg7B => ?_))
     ·
      refine gP (zab rfl rfl rfl hg7B) (zah rfl) rfl <| gP (zab rfl rfl rfl hg7B) (zah rfl) rfl <| gP (zab rfl rfl rfl hg7B) (zah rfl) rfl <| gP (zab rfl rfl rfl hg7B) (zaf rfl) rfl <| gP (zab rfl rfl rfl hg7B) (zaa rfl ⟨_,_,_,Tryz.runUnderlying111,rfl,rfl,Tryz.sizeOf30,rfl⟩) rfl <| gV (zab rfl rfl rfl hg7B) (zby (Ent.trans (t1_ eR) (zbl (Md.dev_is hd2).1)) (zag rfl foc0 rfl Tryz.isAgg30)) rfl <| RJ_gy (zab rfl rfl rfl hg7B) <| zaq (ziq (rdNew (Md.dev_is hd2).1) zos) rfl Tryz.call81 (Dels.cons del1 Dels.nil) rfl fun _ hc6=>RJ_gy (zab rfl rfl rfl hg7B) <| zaq (zq1 (Md.dev_is hd2).1) rfl Tryz.call80 (Dels.cons del1 (Dels.cons del0 Dels.nil)) rfl fun _ hc7=>gP (zab rfl rfl rfl hg7B) (P_not rfl) rfl <| gP (zab rfl rfl rfl hg7B) (zah rfl) rfl ?_
      first | (refine zbp 55 rfl (fun hg8B hg8 => ?_) (fun hg8B hg8 => ?_)) | (refine zbq 55 rfl (fun hg8B hg8 => ?_) (fun hg8B hg8 => ?_)) | (refine zbr 55 rfl (fun hg8B => ?_) (fun hg8B => ?_))
      ·
       refine RJ_gn (GY_no rfl rfl rfl hg8B) rfl rfl <| RJ_gn (GY_no rfl rfl rfl hg8B) rfl rfl <| RJ_gn (GY_no rfl rfl rfl hg8B) rfl rfl <| RJ_gn (GY_no rfl rfl rfl hg8B) rfl rfl <| RJ_gn (GY_no rfl rfl rfl hg8B) rfl rfl <| RJ_gn (GY_no rfl rfl rfl hg8B) rfl rfl <| RJ_gn (GY_no rfl rfl rfl hg8B) rfl rfl <| gP (zab rfl rfl rfl hg7B) (za2 rfl hg8B rfl) rfl <| oP (za2 rfl hg7B rfl) rfl <| oA rfl rfl <| nT <| zbk rfl rfl <| sR <| oA rfl rfl <| nT <| zaj <| zam <| zae <| zan (res1 Tryz.results34 rfl) ?_
       have e1 := (fun z=>(⟨z,Md.rsS_no (by rw [z]; decide)⟩:m.rsE n=1∧m.rsS n=m)) (Md.rs_fit hd2 (by simp_all) (by simp_all))
       rw [e1.2]
       refine CSpec.close c ?_ ?_ (t0_ (t0_ eR))
       · rw [e1.1]
       · trivial
      ·
       refine gP (zab rfl rfl rfl hg8B) (zah rfl) rfl <| gP (zab rfl rfl rfl hg8B) (zah rfl) rfl <| gP (zab rfl rfl rfl hg8B) (zaf rfl) rfl <| gP (zab rfl rfl rfl hg8B) (zaa rfl ⟨_,_,_,Tryz.runUnderlying111,rfl,rfl,Tryz.sizeOf30,rfl⟩) rfl <| gV (zab rfl rfl rfl hg8B) (zby (Ent.trans (t1_ eR) (zbl (Md.dev_is hd2).1)) (zag rfl foc0 rfl Tryz.isAgg30)) rfl <| RJ_gy (zab rfl rfl rfl hg8B) <| zaq (zsn (rdNew hdk.1) (by omega) (fun x hx=>⟨fun hne=>hO.nam _ hdk.1.1 hdk.1.2.1 x (List.mem_append.2 (.inr hx)) hne,zej (hO.chk _).2 hx⟩)) rfl Tryz.call73 (Dels.cons del0 (Dels.cons del0 Dels.nil)) rfl fun _ hc8=>gP (zab rfl rfl rfl hg8B) (P_not rfl) rfl <| gP (zab rfl rfl rfl hg7B) (za5 rfl hg8B rfl) rfl <| oP (za2 rfl hg7B rfl) rfl <| oA rfl rfl <| nT ?_
       first | (refine zao rfl (fun hg9 => ?_) (fun hg9 => ?_)) | (refine zap rfl (fun hg9 => ?_) (fun hg9 => ?_)) | (refine zar rfl (fun hg9 => ?_) (fun hg9 => ?_))
       ·
        refine sR <| oA rfl rfl <| nT <| zaj <| zam <| zae <| zan (res1 Tryz.results34 rfl) ?_
        have e1 := (fun z=>(⟨z,Md.rsS_no (by rw [z]; decide)⟩:m.rsE n=1∧m.rsS n=m)) (Md.rs_fit hd2 (by simp_all) (by simp_all))
        rw [e1.2]
        refine CSpec.close c ?_ ?_ (t0_ (t0_ eR))
        · rw [e1.1]
        · trivial
       ·
        exact za8 <| zak <| cR () ⟨by simp_all,by simp_all⟩ True.intro (t0_ (t0_ eR))
     ·
      exact RJ_gn (GY_no rfl rfl rfl hg7B) rfl rfl <| RJ_gn (GY_no rfl rfl rfl hg7B) rfl rfl <| RJ_gn (GY_no rfl rfl rfl hg7B) rfl rfl <| RJ_gn (GY_no rfl rfl rfl hg7B) rfl rfl <| RJ_gn (GY_no rfl rfl rfl hg7B) rfl rfl <| RJ_gn (GY_no rfl rfl rfl hg7B) rfl rfl <| RJ_gn (GY_no rfl rfl rfl hg7B) rfl rfl <| RJ_gn (GY_no rfl rfl rfl hg7B) rfl rfl <| RJ_gn (GY_no rfl rfl rfl hg7B) rfl rfl <| RJ_gn (GY_no rfl rfl rfl hg7B) rfl rfl <| RJ_gn (zbu rfl rfl rfl) rfl rfl <| RJ_gn (zbu rfl rfl rfl) rfl rfl <| RJ_gn (zbu rfl rfl rfl) rfl rfl <| RJ_gn (zbu rfl rfl rfl) rfl rfl <| RJ_gn (zbu rfl rfl rfl) rfl rfl <| RJ_gn (zbu rfl rfl rfl) rfl rfl <| RJ_gn (zbu rfl rfl rfl) rfl rfl <| RJ_gn (GY_no rfl rfl rfl hg7B) rfl rfl <| oP (za5 rfl hg7B rfl) rfl <| oA rfl rfl <| nT <| zbf rfl rfl <| za8 <| zak <| cR () ⟨by simp_all,by simp_all⟩ True.intro (t0_ (t0_ eR))
  ·
   intro _ hpf
   obtain ⟨hst,hft⟩ := hpf
   show CJ _ _ _ _ _ (([]:Slots) ++ forget _ _) (blk b 84 (za3 c m)::MapR c m::_)
   refine zad <| zad ?_
   have hdk := Md.dev_is hd2
   have hch2 := zbx (hO.chk k1).2
   have hwl := m.wait_le k1
   refine zbd (Ent.trans (t1_ eR) (zbl hdk.1)) <| zai <| oM rfl rfl <| oP (zaf rfl) rfl <| oP (zaa rfl ⟨_,_,_,Tryz.runUnderlying111,rfl,rfl,Tryz.sizeOf4,rfl⟩) rfl <| oV (zag rfl foc0 rfl Tryz.isAgg4) rfl <| nT ?_
   first | (refine zao rfl (fun hg10 => ?_) (fun hg10 => ?_)) | (refine zap rfl (fun hg10 => ?_) (fun hg10 => ?_)) | (refine zar rfl (fun hg10 => ?_) (fun hg10 => ?_))
   ·
    refine sR <| oM rfl rfl <| oM rfl rfl <| oM rfl rfl <| oP (zaf rfl) rfl <| oP (zaa rfl ⟨_,_,_,Tryz.runUnderlying111,rfl,rfl,Tryz.sizeOf30,rfl⟩) rfl <| oV (zag rfl foc0 rfl Tryz.isAgg30) rfl <| oP (zaf rfl) rfl <| oP (zaa rfl ⟨_,_,_,Tryz.runUnderlying111,rfl,rfl,Tryz.sizeOf30,rfl⟩) rfl <| oO <| zbh rfl rfl foc0 rfl rfl Tryz.sizeOf30 <| oP (zaf rfl) rfl <| oP (zaa rfl ⟨_,_,_,Tryz.runUnderlying111,rfl,rfl,Tryz.sizeOf4,rfl⟩) rfl <| oO <| zbh rfl rfl foc0 rfl rfl Tryz.sizeOf4 <| nT <| zai <| oM rfl rfl <| oM rfl rfl <| oP (zaf rfl) rfl <| oP (zaa rfl ⟨_,_,_,Tryz.runUnderlying111,rfl,rfl,Tryz.sizeOf30,rfl⟩) rfl <| oO <| zbh rfl rfl foc0 rfl rfl Tryz.sizeOf30 <| oP (zaf rfl) rfl <| oP (zaa rfl ⟨_,_,_,Tryz.runUnderlying111,rfl,rfl,Tryz.sizeOf4,rfl⟩) rfl <| oO <| zbh rfl rfl foc0 rfl rfl Tryz.sizeOf4 <| nT <| sR <| oM rfl rfl <| oP (zaf rfl) rfl <| oP (zaa rfl ⟨_,_,_,Tryz.runUnderlying111,rfl,rfl,Tryz.sizeOf4,rfl⟩) rfl <| oO <| zbh rfl rfl foc0 rfl rfl Tryz.sizeOf4 <| nT <| sR <| oM rfl rfl <| oP (zaf rfl) rfl <| oP (zaa rfl ⟨_,_,_,Tryz.runUnderlying111,rfl,rfl,Tryz.sizeOf109,rfl⟩) rfl <| oV (zag rfl foc0 rfl Tryz.isAgg109) rfl <| oA rfl rfl <| nT <| sR <| oM rfl rfl <| oP (zaf rfl) rfl <| oP (zaa rfl ⟨_,_,_,Tryz.runUnderlying111,rfl,rfl,Tryz.sizeOf109,rfl⟩) rfl ?_
    refine oO <| zbh rfl rfl foc0 rfl rfl Tryz.sizeOf109 <| nT <| zad <| zad <| zbd (fun h hh=>zb2 (t:=tyErr) h hh) <| zbd (fun h hh=>zb2 (t:=tyapi_Target) h hh) ?_
    have he:m.rs0 k1=m.set k1 { m.at k1 with live := (m.at k1).new,hl := true,new := [],hn := false,susp := false,wait := [] } := by unfold Md.rs0 Md.rsX; rw [if_pos (by assumption)]
    refine zbd (Ent.trans (t2_ (t3_ (t0_ (t0_ (t2_ eR))))) (zeo (h' := { c.hd k1 with lv := (c.hd k1).nw,nw := s3z,wt := s3z }) (d' := { m.at k1 with live := (m.at k1).new,hl := true,new := [],hn := false,susp := false,wait := [] }) (m' := (m.set k1 { m.at k1 with live := (m.at k1).new,hl := true,new := [],hn := false,susp := false,wait := [] })) hW hdk.1 rfl hdk.1.2.2 rfl rfl rfl (he ▸ Md.ok_rs0 hO hdk.1) (hW.big.set hdk.1.1 rfl (Nat.zero_le _) hW.big.tks hW.big.told hW.big.wr) rfl rfl)) ?_
    rw [← he]
    refine zai <| oM rfl rfl <| oV (V_len rfl foc2 (Reads.sl _ _ _) Tryz.runUnderlying109) rfl <| oM rfl rfl <| nT <| zas <| zbe (X:=Nat × MH) [8,9,10,97,98,99,100,101,102,103,104,105,106,107,108,109,110,111,112,113,114,115,116,117,118,119,120,121,122,123,124,125,126,127,128,129,130,131,132,133,134,135,136,137,138,139,140,141] (fun ⟨i,c2⟩  => ([(97,.int .i64 (i:Nat))]:Slots)) (fun ⟨i,c2⟩ R=>sl tyErr (c.hd k1).wt.v ((m.at k1).wait.map (wC c2.bs))::blk b 84 (za3 c2 (m.rsI k1 i))::MapR c2 (m.rsI k1 i)::R) (fun ⟨i,c2⟩  => i≤(m.at k1).wait.length) (fun ⟨i,c2⟩  => (m.at k1).wait.length - i) ⟨0,(c.put k1 { c.hd k1 with lv := (c.hd k1).nw,nw := s3z,wt := s3z } { m.at k1 with live := (m.at k1).new,hl := true,new := [],hn := false,susp := false,wait := [] })⟩ ?_ ?_ (Ent.takeC del2 (congrArg (fun f=>sl tyErr (c.hd k1).wt.v ((m.at k1).wait.map (wC f))) (show MH.bs (c.put k1 { c.hd k1 with lv := (c.hd k1).nw,nw := s3z,wt := s3z } { m.at k1 with live := (m.at k1).new,hl := true,new := [],hn := false,susp := false,wait := [] })=c.bs from zn4 hW hdk.1 rfl).symm) (Ent.takeC del2 (by rw [Md.rsI_zero]; rfl) (Ent.takeC del0 (by rw [Md.rsI_zero]; rfl) (t0_ eR)))) ?_
    · exact Nat.zero_le _
    · exact ⟨rfl,True.intro⟩
    ·
     rintro ⟨i,c2⟩ hi
     show CJ _ _ _ _ _ (([(97,.int .i64 (i:Nat))]:Slots) ++ forget _ _) (sl tyErr (c.hd k1).wt.v ((m.at k1).wait.map (wC c2.bs))::blk b 84 (za3 c2 (m.rsI k1 i))::MapR c2 (m.rsI k1 i)::_)
     refine zba (zb4 foc2) fun hW2 => ?_
     have hO2 := hW2.ok
     have hK := Md.rsI_K hi
     have hKt := hK.told
     have hKw := hK.wr
     have hKs := hK.wsum
     have hK0 := Md.rs0_wsum (m:=m) hdk.1.1
     have hr0t:(m.rs0 k1).told=m.told := rfl
     have hr0w:(m.rs0 k1).wr=m.wr := rfl
     rw [hr0t] at hKt
     rw [hr0w] at hKw
     have hlm:((m.at k1).wait.map (wC c2.bs)).length=(m.at k1).wait.length := by simp
     have hlm0:((m.at k1).wait.map (wC c.bs)).length=(m.at k1).wait.length := by simp
     refine sR <| oP (P_lss rfl rfl) rfl <| nT <| zad ?_
     first | (refine zao rfl (fun hg11 => ?_) (fun hg11 => ?_)) | (refine zap rfl (fun hg11 => ?_) (fun hg11 => ?_)) | (refine zar rfl (fun hg11 => ?_) (fun hg11 => ?_))
     ·
      refine kT <| zad <| zas <| zad ?_
      have hi2:i < (m.at k1).wait.length := by omega
      have hog := Md.org_at hO hdk.1.1 hi2
      have hgv := Md.rsI_isD hdk.1.1 hi hog.1
      refine zai ?_
      first | (refine RJ_op rfl (OJ_V (zal rfl rfl rfl (by omega) foc0 (Reads.sl _ _ _) Tryz.runUnderlying109 Tryz.sizeOf135) rfl ?_)) | (refine RJ_op rfl (OJ_V (zal rfl rfl (Int.toNat_of_nonneg (by omega)).symm (by omega) foc0 (Reads.sl _ _ _) Tryz.runUnderlying109 Tryz.sizeOf135) rfl ?_))
      refine oV (VJ_eq (zb7 rfl rfl (by omega) foc0 (Reads.sl _ _ _) rfl rfl Tryz.isAgg135 Tryz.sizeOf135) (zvr hi2)) rfl <| oO <| zb1 Tryz.zeroValue135 rfl rfl fun b9=>oO <| zbj rfl rfl foc0 Tryz.sizeOf135 rfl rfl rfl <| nT <| zad <| sR <| oM rfl rfl <| oP (zaa rfl ⟨_,_,_,Tryz.runUnderlying135,rfl,rfl,Tryz.sizeOf85,rfl⟩) rfl <| oV (zag rfl foc0 rfl Tryz.isAgg85) rfl <| oP (zaa rfl ⟨_,_,_,Tryz.runUnderlying135,rfl,rfl,Tryz.sizeOf33,rfl⟩) rfl <| oV (zbo rfl foc0 Tryz.isAgg33 Tryz.sizeOf33 rfl rfl) rfl <| oO <| zaq (zlg (t:=((m.at k1).wait.getD i Wt.z).t) hgv) rfl Tryz.call78 (Dels.cons del2 (Dels.cons del2 Dels.nil)) rfl fun _ hc10=>oA rfl rfl <| nT <| sR <| oM rfl rfl <| oP (zjo rfl rfl Tryz.underlying85) rfl <| nT ?_
      first | (refine zao rfl (fun hg12 => ?_) (fun hg12 => ?_)) | (refine zap rfl (fun hg12 => ?_) (fun hg12 => ?_)) | (refine zar rfl (fun hg12 => ?_) (fun hg12 => ?_))
      ·
       refine zad ?_
       obtain ⟨w,hw0⟩ := Option.isSome_iff_exists.1 (show ((m.rsI k1 i).wayk ((m.at k1).wait.getD i Wt.z).gv ((m.at k1).wait.getD i Wt.z).t).isSome=true by assumption)
       have hwD:(m.rsI k1 i).isD w := by have := Md.way_is hO2 _ _ _ _ hgv.1 hgv.2.1 hw0; exact ⟨this.1,this.2.1,this.2.2.1⟩
       rw [hw0]
       have hwle := (m.rsI k1 i).wait_le w
       refine zbd (Ent.trans (t1_ eR) (zbl hwD)) <| za4 1152 (by kernel_rfl) rfl <| aN 0 1 rfl rfl (zah rfl) rfl <| aN 1 3 rfl rfl (zah rfl) rfl <| aN 2 7 rfl rfl (zaf rfl) rfl <| aN 3 15 rfl rfl (zaa rfl ⟨_,_,_,Tryz.runUnderlying111,rfl,rfl,Tryz.sizeOf109,rfl⟩) rfl <| aV 4 31 rfl rfl (zac rfl) (t0_ (t0_ (t0_ (t0_ (t0_ (t0_ (t0_ (t0_ (t0_ eR))))))))) (zag rfl foc0 rfl Tryz.isAgg109) rfl <| aV 5 63 rfl rfl (zac rfl) (t0_ (t0_ (t0_ (t0_ (t0_ (t0_ (t0_ (t0_ (t0_ eR))))))))) (zbo rfl foc6 Tryz.isAgg135 Tryz.sizeOf135 rfl rfl) rfl <| AJ_op 6 127 rfl (by kernel_rfl) rfl (zac rfl) <| za7 rfl (zh3 _ _ _ _ _) rfl fun b11=>⟨fun _=>(t1_ (t1_ (t1_ (t1_ (t1_ (t1_ (t1_ (t1_ (t1_ (eD eR)))))))))),?_⟩
       refine AJ_op 7 255 rfl (by kernel_rfl) rfl (zac rfl) <| zbv (t:=tyErr) (bytes:=40) rfl rfl del4 foc0 (Reads.lit (t:=tyErr) (ys:=[⟨(((m.at k1).wait.getD i Wt.z).tk:Int),c2.bs ((m.at k1).wait.getD i Wt.z).gv,((m.at k1).wait.getD i Wt.z).t⟩]) rfl rfl (by decide) (by decide) rfl) Tryz.underlying109 zj6 (by simp only [List.length_append,List.length_map,List.length_cons,List.length_nil,maxLen] at *; omega) (by simp only [List.length_append,List.length_map,List.length_cons,List.length_nil,maxLen] at *; omega) rfl fun p12 c13=>⟨fun h=>absurd h (by decide),?_⟩
       refine aN 8 511 rfl rfl (zaf rfl) rfl <| aN 9 1023 rfl rfl (zaa rfl ⟨_,_,_,Tryz.runUnderlying111,rfl,rfl,Tryz.sizeOf109,rfl⟩) rfl <| AJ_op 10 2047 rfl (by kernel_rfl) rfl (zac rfl) <| zbh rfl rfl foc2 rfl rfl Tryz.sizeOf109 <| ⟨fun h=>absurd h (by decide),?_⟩
       refine aD <| zbg <| zaw <| zau <| zat <| zai <| oP (P_add rfl rfl (by omega)) rfl <| oM rfl rfl <| za0 ?_
       have he2:m.rsI k1 (i + 1)=(m.rsI k1 i).addW w ((m.at k1).wait.getD i Wt.z) := by rw [Md.rsI_succ hi2,Md.rsT_way hw0]
       refine za6 ⟨i + 1,(c2.put w { c2.hd w with wt := ⟨p12,_,c13⟩ } { (m.rsI k1 i).at w with wait := ((m.rsI k1 i).at w).wait ++ [((m.at k1).wait.getD i Wt.z)] })⟩ (by show (m.at k1).wait.length - (i + 1) < (m.at k1).wait.length - i; omega) ?_ (by repeat (first | exact Kp.base | exact Kp.self | refine Kp.cons rfl ?_ | refine Kp.forget rfl ?_)) ?_ (Ent.trans (Ent.trans (t2_ (t2_ (t2_ (Ent.takeC del0 (by rw [List.map_append]; rfl) (t1_ eR))))) (zeo (h' := { c2.hd w with wt := ⟨p12,_,c13⟩ }) (d' := { (m.rsI k1 i).at w with wait := ((m.rsI k1 i).at w).wait ++ [((m.at k1).wait.getD i Wt.z)] }) (m' := (m.rsI k1 i).addW w ((m.at k1).wait.getD i Wt.z)) hW2 hwD rfl hwD.2.2 rfl rfl rfl (Md.ok_addW hO2 hwD ⟨hgv.1,hgv.2.1,hgv.2.2,hog.2⟩) (hW2.big.set hwD.1 rfl (by show (((m.rsI k1 i).at w).wait ++ _).length≤_; rw [List.length_append]; have := (m.rsI k1 i).wait_le w; simp; omega) hW2.big.tks hW2.big.told hW2.big.wr) rfl rfl)) (Ent.takeC del4 (congrArg (fun f=>sl tyErr (c.hd k1).wt.v ((m.at k1).wait.map (wC f))) (show MH.bs (c2.put w { c2.hd w with wt := ⟨p12,_,c13⟩ } { (m.rsI k1 i).at w with wait := ((m.rsI k1 i).at w).wait ++ [((m.at k1).wait.getD i Wt.z)] })=c2.bs from zn4 hW2 hwD rfl).symm) (Ent.takeC del2 (by rw [he2] <;> rfl) (Ent.takeC del0 (by rw [he2] <;> rfl) (t2_ (eD (eD eR)))))))
       · omega
       · exact ⟨rfl,True.intro⟩
      ·
       refine kT <| zad ?_
       have hnw:(m.rsI k1 i).wayk ((m.at k1).wait.getD i Wt.z).gv ((m.at k1).wait.getD i Wt.z).t=none := by simpa using (show ((m.rsI k1 i).wayk ((m.at k1).wait.getD i Wt.z).gv ((m.at k1).wait.getD i Wt.z).t).isSome=false by assumption)
       refine za4 1280 (by kernel_rfl) rfl <| aN 0 1 rfl rfl (zah rfl) rfl <| aN 1 3 rfl rfl (zaa rfl ⟨_,_,_,Tryz.runUnderlying135,rfl,rfl,Tryz.sizeOf85,rfl⟩) rfl <| aV 2 7 rfl rfl (zac rfl) (t0_ (t0_ (t0_ (t0_ (t0_ eR))))) (zag rfl foc2 rfl Tryz.isAgg85) rfl <| aN 3 15 rfl rfl (zaf rfl) rfl <| aN 4 31 rfl rfl (zaa rfl ⟨_,_,_,Tryz.runUnderlying111,rfl,rfl,Tryz.sizeOf9,rfl⟩) rfl <| aV 5 63 rfl rfl (zac rfl) (t0_ (t0_ (t0_ (t0_ (t0_ eR))))) (zby (Ent.trans (t1_ eR) (zbl hgv)) (zag rfl foc0 rfl Tryz.isAgg9)) rfl <| aN 6 127 rfl rfl (zaa rfl ⟨_,_,_,Tryz.runUnderlying135,rfl,rfl,Tryz.sizeOf33,rfl⟩) rfl <| aV 7 255 rfl rfl (zac rfl) (t0_ (t0_ (t0_ (t0_ (t0_ eR))))) (zbo rfl foc2 Tryz.isAgg33 Tryz.sizeOf33 rfl rfl) rfl <| zkr 8 9 511 767 rfl rfl (by kernel_rfl) rfl rfl (zac rfl) (zac rfl) (zaq ((zge (nm:=((m.rsI k1 i).at ((m.at k1).wait.getD i Wt.z).gv).name) (t:=((m.at k1).wait.getD i Wt.z).t) (by omega) hog.2.2.2 (by rw [Md.at_find hO2 hgv.1 hgv.2.1]; rfl) ⟨hog.2.1,hog.2.2.1⟩)) rfl Tryz.call82 (Dels.cons del0 (Dels.cons del0 Dels.nil)) rfl (fun c9 h9 => ?_)) (zb1 Tryz.zeroValue51 rfl rfl (fun b15 => ?_))
       ·
        refine ⟨fun h=>absurd h (by decide),?_⟩
        refine zrd 9 1023 rfl (by kernel_rfl) rfl (zac rfl) Tryz.zeroValue51 rfl rfl fun b16=>AJ_op 10 2047 rfl (by kernel_rfl) rfl (zac rfl) <| zbj rfl rfl foc0 Tryz.sizeOf51 rfl rfl rfl <| ⟨fun h=>absurd h (by decide),?_⟩
        refine aD <| zad <| zbd (t0_ (Ent.takeC del0 (congrArg (blk b 84) h9.1.symm) (t0_ (t0_ (t0_ (t0_ eR)))))) <| zai <| oP (zaa rfl ⟨_,_,_,Tryz.runUnderlying135,rfl,rfl,Tryz.sizeOf3,rfl⟩) rfl <| oV (zag rfl foc3 rfl Tryz.isAgg3) rfl <| oP (zaa rfl ⟨_,_,_,Tryz.runUnderlying51,rfl,rfl,Tryz.sizeOf3,rfl⟩) rfl <| oO <| zbh rfl rfl foc0 rfl rfl Tryz.sizeOf3 <| nT <| zbd (Ent.trans (t2_ eR) zhr) ?_
        have hto9:((m.rsI k1 i).carryN ((m.rsI k1 i).dv.length + 1) ((m.rsI k1 i).at ((m.at k1).wait.getD i Wt.z).gv).name ((m.at k1).wait.getD i Wt.z).t).2.told=(m.rsI k1 i).told := by rw [zfz hO2 hgv.1 hgv.2.1]; exact (Md.carry_kept _ _ _).told
        have hto8 := congrArg List.length hto9
        refine za4 1152 (by kernel_rfl) rfl <| aN 0 1 rfl rfl (zah rfl) rfl <| aN 1 3 rfl rfl (zah rfl) rfl <| aN 2 7 rfl rfl (zaf rfl) rfl <| aN 3 15 rfl rfl (zaa rfl ⟨_,_,_,Tryz.runUnderlying84,rfl,rfl,Tryz.sizeOf54,rfl⟩) rfl <| aV 4 31 rfl rfl (zac rfl) (t0_ (t0_ (t0_ (t0_ (t0_ (t0_ (t0_ eR))))))) (zag rfl foc3 rfl Tryz.isAgg54) rfl <| aV 5 63 rfl rfl (zac rfl) (t0_ (t0_ (t0_ (t0_ (t0_ (t0_ (t0_ eR))))))) (zbo rfl foc2 Tryz.isAgg51 Tryz.sizeOf51 rfl rfl) rfl <| AJ_op 6 127 rfl (by kernel_rfl) rfl (zac rfl) <| za7 rfl (zfh _ _ _ _) rfl fun b17=>⟨fun _=>(t1_ (t1_ (t1_ (t1_ (t1_ (t1_ (t1_ (eD eR)))))))),?_⟩
        refine AJ_op 7 255 rfl (by kernel_rfl) rfl (zac rfl) <| zbv (t:=tyapi_Answer) (bytes:=32) rfl rfl del1 foc0 (Reads.lit (t:=tyapi_Answer) (ys:=[⟨true,(((m.at k1).wait.getD i Wt.z).tk:Int),(ansN (m.rsI k1 i) ((m.rsI k1 i).at ((m.at k1).wait.getD i Wt.z).gv).name ((m.at k1).wait.getD i Wt.z).t).Value,(ansN (m.rsI k1 i) ((m.rsI k1 i).at ((m.at k1).wait.getD i Wt.z).gv).name ((m.at k1).wait.getD i Wt.z).t).Error⟩]) rfl rfl (by decide) (by decide) rfl) Tryz.underlying54 zea (by simp only [List.length_append,List.length_map,List.length_cons,List.length_nil,maxLen] at *; omega) (by simp only [List.length_append,List.length_map,List.length_cons,List.length_nil,maxLen] at *; omega) rfl fun p18 c19=>⟨fun h=>absurd h (by decide),?_⟩
        refine aN 8 511 rfl rfl (zaf rfl) rfl <| aN 9 1023 rfl rfl (zaa rfl ⟨_,_,_,Tryz.runUnderlying84,rfl,rfl,Tryz.sizeOf54,rfl⟩) rfl <| AJ_op 10 2047 rfl (by kernel_rfl) rfl (zac rfl) <| zbh rfl rfl foc4 rfl rfl Tryz.sizeOf54 <| ⟨fun h=>absurd h (by decide),?_⟩
        refine zds (by kernel_rfl) <| zak <| zat <| zai <| oP (P_add rfl rfl (by omega)) rfl <| oM rfl rfl <| za0 ?_
        have he2:m.rsI k1 (i + 1) = { { ((m.rsI k1 i).carryN ((m.rsI k1 i).dv.length + 1) ((m.rsI k1 i).at ((m.at k1).wait.getD i Wt.z).gv).name ((m.at k1).wait.getD i Wt.z).t).2 with told := [] } with told := ((m.rsI k1 i).carryN ((m.rsI k1 i).dv.length + 1) ((m.rsI k1 i).at ((m.at k1).wait.getD i Wt.z).gv).name ((m.at k1).wait.getD i Wt.z).t).2.told ++ [⟨true,(((m.at k1).wait.getD i Wt.z).tk:Int),(ansN (m.rsI k1 i) ((m.rsI k1 i).at ((m.at k1).wait.getD i Wt.z).gv).name ((m.at k1).wait.getD i Wt.z).t).Value,(ansN (m.rsI k1 i) ((m.rsI k1 i).at ((m.at k1).wait.getD i Wt.z).gv).name ((m.at k1).wait.getD i Wt.z).t).Error⟩] } := by
          unfold ansN
          rw [Md.rsI_succ hi2,Md.rsT_go hnw,zfz hO2 hgv.1 hgv.2.1]
        have htl9:(((m.rsI k1 i).carryN ((m.rsI k1 i).dv.length + 1) ((m.rsI k1 i).at ((m.at k1).wait.getD i Wt.z).gv).name ((m.at k1).wait.getD i Wt.z).t).2.told ++ [(⟨true,(((m.at k1).wait.getD i Wt.z).tk:Int),(ansN (m.rsI k1 i) ((m.rsI k1 i).at ((m.at k1).wait.getD i Wt.z).gv).name ((m.at k1).wait.getD i Wt.z).t).Value,(ansN (m.rsI k1 i) ((m.rsI k1 i).at ((m.at k1).wait.getD i Wt.z).gv).name ((m.at k1).wait.getD i Wt.z).t).Error⟩:api_Answer)]).length≤100000000 := by rw [List.length_append,hto9]; simp; omega
        refine za6 ⟨i + 1, { { c9 with tv := s3z } with tv := ⟨p18,(((m.rsI k1 i).carryN ((m.rsI k1 i).dv.length + 1) ((m.rsI k1 i).at ((m.at k1).wait.getD i Wt.z).gv).name ((m.at k1).wait.getD i Wt.z).t).2.told ++ [(⟨true,(((m.at k1).wait.getD i Wt.z).tk:Int),(ansN (m.rsI k1 i) ((m.rsI k1 i).at ((m.at k1).wait.getD i Wt.z).gv).name ((m.at k1).wait.getD i Wt.z).t).Value,(ansN (m.rsI k1 i) ((m.rsI k1 i).at ((m.at k1).wait.getD i Wt.z).gv).name ((m.at k1).wait.getD i Wt.z).t).Error⟩:api_Answer)]).length,c19⟩ }⟩ (by show (m.at k1).wait.length - (i + 1) < (m.at k1).wait.length - i; omega) ?_ (by repeat (first | exact Kp.base | exact Kp.self | refine Kp.cons rfl ?_ | refine Kp.forget rfl ?_)) ?_ (Ent.trans (Ent.trans (t0_ (t1_ eR)) (zi7 (tv:=⟨p18,(((m.rsI k1 i).carryN ((m.rsI k1 i).dv.length + 1) ((m.rsI k1 i).at ((m.at k1).wait.getD i Wt.z).gv).name ((m.at k1).wait.getD i Wt.z).t).2.told ++ [(⟨true,(((m.at k1).wait.getD i Wt.z).tk:Int),(ansN (m.rsI k1 i) ((m.rsI k1 i).at ((m.at k1).wait.getD i Wt.z).gv).name ((m.at k1).wait.getD i Wt.z).t).Value,(ansN (m.rsI k1 i) ((m.rsI k1 i).at ((m.at k1).wait.getD i Wt.z).gv).name ((m.at k1).wait.getD i Wt.z).t).Error⟩:api_Answer)]).length,c19⟩) htl9)) (Ent.takeC del5 (by exact congrArg (fun f=>sl tyErr (c.hd k1).wt.v ((m.at k1).wait.map (wC f))) h9.2.symm) (Ent.takeC del3 (by rw [he2] <;> rfl) (Ent.takeC del0 (by rw [he2] <;> rfl) (t3_ (eD (eD (eD eR))))))))
        · omega
        · exact ⟨rfl,True.intro⟩
       ·
        refine ⟨fun _=>(t1_ (t1_ (t1_ (t1_ (t1_ (eD eR)))))),?_⟩
        refine AJ_op 8 1023 rfl (by kernel_rfl) rfl (zac rfl) <| zaq ((zge (nm:=((m.rsI k1 i).at ((m.at k1).wait.getD i Wt.z).gv).name) (t:=((m.at k1).wait.getD i Wt.z).t) (by omega) hog.2.2.2 (by rw [Md.at_find hO2 hgv.1 hgv.2.1]; rfl) ⟨hog.2.1,hog.2.2.1⟩)) rfl Tryz.call82 (Dels.cons del1 (Dels.cons del1 Dels.nil)) rfl fun c9 h9=>⟨fun h=>absurd h (by decide),?_⟩
        refine AJ_op 10 2047 rfl (by kernel_rfl) rfl (zac rfl) <| zbj rfl rfl foc2 Tryz.sizeOf51 rfl rfl rfl <| ⟨fun h=>absurd h (by decide),?_⟩
        refine aD <| zad <| zbd (Ent.takeC del0 (congrArg (blk b 84) h9.1.symm) (t0_ (t0_ (t0_ (t0_ (t0_ eR)))))) <| zai <| oP (zaa rfl ⟨_,_,_,Tryz.runUnderlying135,rfl,rfl,Tryz.sizeOf3,rfl⟩) rfl <| oV (zag rfl foc3 rfl Tryz.isAgg3) rfl <| oP (zaa rfl ⟨_,_,_,Tryz.runUnderlying51,rfl,rfl,Tryz.sizeOf3,rfl⟩) rfl <| oO <| zbh rfl rfl foc2 rfl rfl Tryz.sizeOf3 <| nT <| zbd (Ent.trans (t1_ eR) zhr) ?_
        have hto9:((m.rsI k1 i).carryN ((m.rsI k1 i).dv.length + 1) ((m.rsI k1 i).at ((m.at k1).wait.getD i Wt.z).gv).name ((m.at k1).wait.getD i Wt.z).t).2.told=(m.rsI k1 i).told := by rw [zfz hO2 hgv.1 hgv.2.1]; exact (Md.carry_kept _ _ _).told
        have hto8 := congrArg List.length hto9
        refine za4 1152 (by kernel_rfl) rfl <| aN 0 1 rfl rfl (zah rfl) rfl <| aN 1 3 rfl rfl (zah rfl) rfl <| aN 2 7 rfl rfl (zaf rfl) rfl <| aN 3 15 rfl rfl (zaa rfl ⟨_,_,_,Tryz.runUnderlying84,rfl,rfl,Tryz.sizeOf54,rfl⟩) rfl <| aV 4 31 rfl rfl (zac rfl) (t0_ (t0_ (t0_ (t0_ (t0_ (t0_ (t0_ eR))))))) (zag rfl foc2 rfl Tryz.isAgg54) rfl <| aV 5 63 rfl rfl (zac rfl) (t0_ (t0_ (t0_ (t0_ (t0_ (t0_ (t0_ eR))))))) (zbo rfl foc3 Tryz.isAgg51 Tryz.sizeOf51 rfl rfl) rfl <| AJ_op 6 127 rfl (by kernel_rfl) rfl (zac rfl) <| za7 rfl (zfh _ _ _ _) rfl fun b21=>⟨fun _=>(t1_ (t1_ (t1_ (t1_ (t1_ (t1_ (t1_ (eD eR)))))))),?_⟩
        refine AJ_op 7 255 rfl (by kernel_rfl) rfl (zac rfl) <| zbv (t:=tyapi_Answer) (bytes:=32) rfl rfl del1 foc0 (Reads.lit (t:=tyapi_Answer) (ys:=[⟨true,(((m.at k1).wait.getD i Wt.z).tk:Int),(ansN (m.rsI k1 i) ((m.rsI k1 i).at ((m.at k1).wait.getD i Wt.z).gv).name ((m.at k1).wait.getD i Wt.z).t).Value,(ansN (m.rsI k1 i) ((m.rsI k1 i).at ((m.at k1).wait.getD i Wt.z).gv).name ((m.at k1).wait.getD i Wt.z).t).Error⟩]) rfl rfl (by decide) (by decide) rfl) Tryz.underlying54 zea (by simp only [List.length_append,List.length_map,List.length_cons,List.length_nil,maxLen] at *; omega) (by simp only [List.length_append,List.length_map,List.length_cons,List.length_nil,maxLen] at *; omega) rfl fun p22 c23=>⟨fun h=>absurd h (by decide),?_⟩
        refine aN 8 511 rfl rfl (zaf rfl) rfl <| aN 9 1023 rfl rfl (zaa rfl ⟨_,_,_,Tryz.runUnderlying84,rfl,rfl,Tryz.sizeOf54,rfl⟩) rfl <| AJ_op 10 2047 rfl (by kernel_rfl) rfl (zac rfl) <| zbh rfl rfl foc3 rfl rfl Tryz.sizeOf54 <| ⟨fun h=>absurd h (by decide),?_⟩
        refine zds (by kernel_rfl) <| zak <| zat <| zai <| oP (P_add rfl rfl (by omega)) rfl <| oM rfl rfl <| za0 ?_
        have he2:m.rsI k1 (i + 1) = { { ((m.rsI k1 i).carryN ((m.rsI k1 i).dv.length + 1) ((m.rsI k1 i).at ((m.at k1).wait.getD i Wt.z).gv).name ((m.at k1).wait.getD i Wt.z).t).2 with told := [] } with told := ((m.rsI k1 i).carryN ((m.rsI k1 i).dv.length + 1) ((m.rsI k1 i).at ((m.at k1).wait.getD i Wt.z).gv).name ((m.at k1).wait.getD i Wt.z).t).2.told ++ [⟨true,(((m.at k1).wait.getD i Wt.z).tk:Int),(ansN (m.rsI k1 i) ((m.rsI k1 i).at ((m.at k1).wait.getD i Wt.z).gv).name ((m.at k1).wait.getD i Wt.z).t).Value,(ansN (m.rsI k1 i) ((m.rsI k1 i).at ((m.at k1).wait.getD i Wt.z).gv).name ((m.at k1).wait.getD i Wt.z).t).Error⟩] } := by
          unfold ansN
          rw [Md.rsI_succ hi2,Md.rsT_go hnw,zfz hO2 hgv.1 hgv.2.1]
        have htl9:(((m.rsI k1 i).carryN ((m.rsI k1 i).dv.length + 1) ((m.rsI k1 i).at ((m.at k1).wait.getD i Wt.z).gv).name ((m.at k1).wait.getD i Wt.z).t).2.told ++ [(⟨true,(((m.at k1).wait.getD i Wt.z).tk:Int),(ansN (m.rsI k1 i) ((m.rsI k1 i).at ((m.at k1).wait.getD i Wt.z).gv).name ((m.at k1).wait.getD i Wt.z).t).Value,(ansN (m.rsI k1 i) ((m.rsI k1 i).at ((m.at k1).wait.getD i Wt.z).gv).name ((m.at k1).wait.getD i Wt.z).t).Error⟩:api_Answer)]).length≤100000000 := by rw [List.length_append,hto9]; simp; omega
        refine za6 ⟨i + 1, { { c9 with tv := s3z } with tv := ⟨p22,(((m.rsI k1 i).carryN ((m.rsI k1 i).dv.length + 1) ((m.rsI k1 i).at ((m.at k1).wait.getD i Wt.z).gv).name ((m.at k1).wait.getD i Wt.z).t).2.told ++ [(⟨true,(((m.at k1).wait.getD i Wt.z).tk:Int),(ansN (m.rsI k1 i) ((m.rsI k1 i).at ((m.at k1).wait.getD i Wt.z).gv).name ((m.at k1).wait.getD i Wt.z).t).Value,(ansN (m.rsI k1 i) ((m.rsI k1 i).at ((m.at k1).wait.getD i Wt.z).gv).name ((m.at k1).wait.getD i Wt.z).t).Error⟩:api_Answer)]).length,c23⟩ }⟩ (by show (m.at k1).wait.length - (i + 1) < (m.at k1).wait.length - i; omega) ?_ (by repeat (first | exact Kp.base | exact Kp.self | refine Kp.cons rfl ?_ | refine Kp.forget rfl ?_)) ?_ (Ent.trans (Ent.trans (t0_ (t1_ eR)) (zi7 (tv:=⟨p22,(((m.rsI k1 i).carryN ((m.rsI k1 i).dv.length + 1) ((m.rsI k1 i).at ((m.at k1).wait.getD i Wt.z).gv).name ((m.at k1).wait.getD i Wt.z).t).2.told ++ [(⟨true,(((m.at k1).wait.getD i Wt.z).tk:Int),(ansN (m.rsI k1 i) ((m.rsI k1 i).at ((m.at k1).wait.getD i Wt.z).gv).name ((m.at k1).wait.getD i Wt.z).t).Value,(ansN (m.rsI k1 i) ((m.rsI k1 i).at ((m.at k1).wait.getD i Wt.z).gv).name ((m.at k1).wait.getD i Wt.z).t).Error⟩:api_Answer)]).length,c23⟩) htl9)) (Ent.takeC del5 (by exact congrArg (fun f=>sl tyErr (c.hd k1).wt.v ((m.at k1).wait.map (wC f))) h9.2.symm) (Ent.takeC del2 (by rw [he2] <;> rfl) (Ent.takeC del0 (by rw [he2] <;> rfl) (t3_ (eD (eD (eD eR))))))))
        · omega
        · exact ⟨rfl,True.intro⟩
     ·
      refine zbg <| zaw <| zav <| zau <| zat <| sR <| oA rfl rfl <| nT <| zaj <| zan (res1 Tryz.results34 rfl) ?_
      obtain rfl:i=(m.at k1).wait.length := by omega
      have e1 := Md.rs_ok hd2 hst hft
      rw [e1.2, ← Md.rsI_end]
      refine CSpec.close c2 ?_ ?_ (t1_ (t1_ (eD (eD eR))))
      · rw [e1.1]
      · trivial
   ·
    refine kT <| sR <| oM rfl rfl <| oP (zaf rfl) rfl <| oP (zaa rfl ⟨_,_,_,Tryz.runUnderlying111,rfl,rfl,Tryz.sizeOf4,rfl⟩) rfl <| oO <| zbh rfl rfl foc0 rfl rfl Tryz.sizeOf4 <| nT <| sR <| oM rfl rfl <| oP (zaf rfl) rfl <| oP (zaa rfl ⟨_,_,_,Tryz.runUnderlying111,rfl,rfl,Tryz.sizeOf109,rfl⟩) rfl <| oV (zag rfl foc0 rfl Tryz.isAgg109) rfl <| oA rfl rfl <| nT <| sR <| oM rfl rfl <| oP (zaf rfl) rfl <| oP (zaa rfl ⟨_,_,_,Tryz.runUnderlying111,rfl,rfl,Tryz.sizeOf109,rfl⟩) rfl <| oO <| zbh rfl rfl foc0 rfl rfl Tryz.sizeOf109 <| nT <| zad <| zad <| zbd (fun h hh=>zb2 (t:=tyErr) h hh) ?_
    have he:m.rs0 k1=m.set k1 { m.at k1 with susp := false,wait := [] } := by unfold Md.rs0 Md.rsX; rw [if_neg (by simp_all)]
    refine zbd (Ent.trans (t1_ (t1_ (t1_ (t0_ (t1_ eR))))) (zeo (h' := { c.hd k1 with wt := s3z }) (d' := { m.at k1 with susp := false,wait := [] }) (m' := (m.set k1 { m.at k1 with susp := false,wait := [] })) hW hdk.1 rfl hdk.1.2.2 rfl rfl rfl (he ▸ Md.ok_rs0 hO hdk.1) (hW.big.set hdk.1.1 rfl (Nat.zero_le _) hW.big.tks hW.big.told hW.big.wr) rfl rfl)) ?_
    rw [← he]
    refine zai <| oM rfl rfl <| oV (V_len rfl foc1 (Reads.sl _ _ _) Tryz.runUnderlying109) rfl <| oM rfl rfl <| nT <| zas <| zbe (X:=Nat × MH) [8,9,10,97,98,99,100,101,102,103,104,105,106,107,108,109,110,111,112,113,114,115,116,117,118,119,120,121,122,123,124,125,126,127,128,129,130,131,132,133,134,135,136,137,138,139,140,141] (fun ⟨i,c2⟩  => ([(97,.int .i64 (i:Nat))]:Slots)) (fun ⟨i,c2⟩ R=>sl tyErr (c.hd k1).wt.v ((m.at k1).wait.map (wC c2.bs))::blk b 84 (za3 c2 (m.rsI k1 i))::MapR c2 (m.rsI k1 i)::R) (fun ⟨i,c2⟩  => i≤(m.at k1).wait.length) (fun ⟨i,c2⟩  => (m.at k1).wait.length - i) ⟨0,(c.put k1 { c.hd k1 with wt := s3z } { m.at k1 with susp := false,wait := [] })⟩ ?_ ?_ (Ent.takeC del1 (congrArg (fun f=>sl tyErr (c.hd k1).wt.v ((m.at k1).wait.map (wC f))) (show MH.bs (c.put k1 { c.hd k1 with wt := s3z } { m.at k1 with susp := false,wait := [] })=c.bs from zn4 hW hdk.1 rfl).symm) (Ent.takeC del1 (by rw [Md.rsI_zero]; rfl) (Ent.takeC del0 (by rw [Md.rsI_zero]; rfl) eR))) ?_
    · exact Nat.zero_le _
    · exact ⟨rfl,True.intro⟩
    ·
     rintro ⟨i,c2⟩ hi
     show CJ _ _ _ _ _ (([(97,.int .i64 (i:Nat))]:Slots) ++ forget _ _) (sl tyErr (c.hd k1).wt.v ((m.at k1).wait.map (wC c2.bs))::blk b 84 (za3 c2 (m.rsI k1 i))::MapR c2 (m.rsI k1 i)::_)
     refine zba (zb4 foc2) fun hW2 => ?_
     have hO2 := hW2.ok
     have hK := Md.rsI_K hi
     have hKt := hK.told
     have hKw := hK.wr
     have hKs := hK.wsum
     have hK0 := Md.rs0_wsum (m:=m) hdk.1.1
     have hr0t:(m.rs0 k1).told=m.told := rfl
     have hr0w:(m.rs0 k1).wr=m.wr := rfl
     rw [hr0t] at hKt
     rw [hr0w] at hKw
     have hlm:((m.at k1).wait.map (wC c2.bs)).length=(m.at k1).wait.length := by simp
     have hlm0:((m.at k1).wait.map (wC c.bs)).length=(m.at k1).wait.length := by simp
     refine sR <| oP (P_lss rfl rfl) rfl <| nT <| zad ?_
     first | (refine zao rfl (fun hg13 => ?_) (fun hg13 => ?_)) | (refine zap rfl (fun hg13 => ?_) (fun hg13 => ?_)) | (refine zar rfl (fun hg13 => ?_) (fun hg13 => ?_))
     ·
      refine kT <| zad <| zas <| zad ?_
      have hi2:i < (m.at k1).wait.length := by omega
      have hog := Md.org_at hO hdk.1.1 hi2
      have hgv := Md.rsI_isD hdk.1.1 hi hog.1
      refine zai ?_
      first | (refine RJ_op rfl (OJ_V (zal rfl rfl rfl (by omega) foc0 (Reads.sl _ _ _) Tryz.runUnderlying109 Tryz.sizeOf135) rfl ?_)) | (refine RJ_op rfl (OJ_V (zal rfl rfl (Int.toNat_of_nonneg (by omega)).symm (by omega) foc0 (Reads.sl _ _ _) Tryz.runUnderlying109 Tryz.sizeOf135) rfl ?_))
      refine oV (VJ_eq (zb7 rfl rfl (by omega) foc0 (Reads.sl _ _ _) rfl rfl Tryz.isAgg135 Tryz.sizeOf135) (zvr hi2)) rfl <| oO <| zb1 Tryz.zeroValue135 rfl rfl fun b24=>oO <| zbj rfl rfl foc0 Tryz.sizeOf135 rfl rfl rfl <| nT <| zad <| sR <| oM rfl rfl <| oP (zaa rfl ⟨_,_,_,Tryz.runUnderlying135,rfl,rfl,Tryz.sizeOf85,rfl⟩) rfl <| oV (zag rfl foc0 rfl Tryz.isAgg85) rfl <| oP (zaa rfl ⟨_,_,_,Tryz.runUnderlying135,rfl,rfl,Tryz.sizeOf33,rfl⟩) rfl <| oV (zbo rfl foc0 Tryz.isAgg33 Tryz.sizeOf33 rfl rfl) rfl <| oO <| zaq (zlg (t:=((m.at k1).wait.getD i Wt.z).t) hgv) rfl Tryz.call78 (Dels.cons del2 (Dels.cons del2 Dels.nil)) rfl fun _ hc25=>oA rfl rfl <| nT <| sR <| oM rfl rfl <| oP (zjo rfl rfl Tryz.underlying85) rfl <| nT ?_
      first | (refine zao rfl (fun hg14 => ?_) (fun hg14 => ?_)) | (refine zap rfl (fun hg14 => ?_) (fun hg14 => ?_)) | (refine zar rfl (fun hg14 => ?_) (fun hg14 => ?_))
      ·
       refine zad ?_
       obtain ⟨w,hw0⟩ := Option.isSome_iff_exists.1 (show ((m.rsI k1 i).wayk ((m.at k1).wait.getD i Wt.z).gv ((m.at k1).wait.getD i Wt.z).t).isSome=true by assumption)
       have hwD:(m.rsI k1 i).isD w := by have := Md.way_is hO2 _ _ _ _ hgv.1 hgv.2.1 hw0; exact ⟨this.1,this.2.1,this.2.2.1⟩
       rw [hw0]
       have hwle := (m.rsI k1 i).wait_le w
       refine zbd (Ent.trans (t1_ eR) (zbl hwD)) <| za4 1152 (by kernel_rfl) rfl <| aN 0 1 rfl rfl (zah rfl) rfl <| aN 1 3 rfl rfl (zah rfl) rfl <| aN 2 7 rfl rfl (zaf rfl) rfl <| aN 3 15 rfl rfl (zaa rfl ⟨_,_,_,Tryz.runUnderlying111,rfl,rfl,Tryz.sizeOf109,rfl⟩) rfl <| aV 4 31 rfl rfl (zac rfl) (t0_ (t0_ (t0_ (t0_ (t0_ (t0_ (t0_ (t0_ eR)))))))) (zag rfl foc0 rfl Tryz.isAgg109) rfl <| aV 5 63 rfl rfl (zac rfl) (t0_ (t0_ (t0_ (t0_ (t0_ (t0_ (t0_ (t0_ eR)))))))) (zbo rfl foc6 Tryz.isAgg135 Tryz.sizeOf135 rfl rfl) rfl <| AJ_op 6 127 rfl (by kernel_rfl) rfl (zac rfl) <| za7 rfl (zh3 _ _ _ _ _) rfl fun b26=>⟨fun _=>(t1_ (t1_ (t1_ (t1_ (t1_ (t1_ (t1_ (t1_ (eD eR))))))))),?_⟩
       refine AJ_op 7 255 rfl (by kernel_rfl) rfl (zac rfl) <| zbv (t:=tyErr) (bytes:=40) rfl rfl del4 foc0 (Reads.lit (t:=tyErr) (ys:=[⟨(((m.at k1).wait.getD i Wt.z).tk:Int),c2.bs ((m.at k1).wait.getD i Wt.z).gv,((m.at k1).wait.getD i Wt.z).t⟩]) rfl rfl (by decide) (by decide) rfl) Tryz.underlying109 zj6 (by simp only [List.length_append,List.length_map,List.length_cons,List.length_nil,maxLen] at *; omega) (by simp only [List.length_append,List.length_map,List.length_cons,List.length_nil,maxLen] at *; omega) rfl fun p27 c28=>⟨fun h=>absurd h (by decide),?_⟩
       refine aN 8 511 rfl rfl (zaf rfl) rfl <| aN 9 1023 rfl rfl (zaa rfl ⟨_,_,_,Tryz.runUnderlying111,rfl,rfl,Tryz.sizeOf109,rfl⟩) rfl <| AJ_op 10 2047 rfl (by kernel_rfl) rfl (zac rfl) <| zbh rfl rfl foc2 rfl rfl Tryz.sizeOf109 <| ⟨fun h=>absurd h (by decide),?_⟩
       refine aD <| zbg <| zaw <| zau <| zat <| zai <| oP (P_add rfl rfl (by omega)) rfl <| oM rfl rfl <| za0 ?_
       have he2:m.rsI k1 (i + 1)=(m.rsI k1 i).addW w ((m.at k1).wait.getD i Wt.z) := by rw [Md.rsI_succ hi2,Md.rsT_way hw0]
       refine za6 ⟨i + 1,(c2.put w { c2.hd w with wt := ⟨p27,_,c28⟩ } { (m.rsI k1 i).at w with wait := ((m.rsI k1 i).at w).wait ++ [((m.at k1).wait.getD i Wt.z)] })⟩ (by show (m.at k1).wait.length - (i + 1) < (m.at k1).wait.length - i; omega) ?_ (by repeat (first | exact Kp.base | exact Kp.self | refine Kp.cons rfl ?_ | refine Kp.forget rfl ?_)) ?_ (Ent.trans (Ent.trans (t2_ (t2_ (t2_ (Ent.takeC del0 (by rw [List.map_append]; rfl) (t1_ eR))))) (zeo (h' := { c2.hd w with wt := ⟨p27,_,c28⟩ }) (d' := { (m.rsI k1 i).at w with wait := ((m.rsI k1 i).at w).wait ++ [((m.at k1).wait.getD i Wt.z)] }) (m' := (m.rsI k1 i).addW w ((m.at k1).wait.getD i Wt.z)) hW2 hwD rfl hwD.2.2 rfl rfl rfl (Md.ok_addW hO2 hwD ⟨hgv.1,hgv.2.1,hgv.2.2,hog.2⟩) (hW2.big.set hwD.1 rfl (by show (((m.rsI k1 i).at w).wait ++ _).length≤_; rw [List.length_append]; have := (m.rsI k1 i).wait_le w; simp; omega) hW2.big.tks hW2.big.told hW2.big.wr) rfl rfl)) (Ent.takeC del4 (congrArg (fun f=>sl tyErr (c.hd k1).wt.v ((m.at k1).wait.map (wC f))) (show MH.bs (c2.put w { c2.hd w with wt := ⟨p27,_,c28⟩ } { (m.rsI k1 i).at w with wait := ((m.rsI k1 i).at w).wait ++ [((m.at k1).wait.getD i Wt.z)] })=c2.bs from zn4 hW2 hwD rfl).symm) (Ent.takeC del2 (by rw [he2] <;> rfl) (Ent.takeC del0 (by rw [he2] <;> rfl) (eD (eD eR))))))
       · omega
       · exact ⟨rfl,True.intro⟩
      ·
       refine kT <| zad ?_
       have hnw:(m.rsI k1 i).wayk ((m.at k1).wait.getD i Wt.z).gv ((m.at k1).wait.getD i Wt.z).t=none := by simpa using (show ((m.rsI k1 i).wayk ((m.at k1).wait.getD i Wt.z).gv ((m.at k1).wait.getD i Wt.z).t).isSome=false by assumption)
       refine za4 1280 (by kernel_rfl) rfl <| aN 0 1 rfl rfl (zah rfl) rfl <| aN 1 3 rfl rfl (zaa rfl ⟨_,_,_,Tryz.runUnderlying135,rfl,rfl,Tryz.sizeOf85,rfl⟩) rfl <| aV 2 7 rfl rfl (zac rfl) (t0_ (t0_ (t0_ (t0_ eR)))) (zag rfl foc2 rfl Tryz.isAgg85) rfl <| aN 3 15 rfl rfl (zaf rfl) rfl <| aN 4 31 rfl rfl (zaa rfl ⟨_,_,_,Tryz.runUnderlying111,rfl,rfl,Tryz.sizeOf9,rfl⟩) rfl <| aV 5 63 rfl rfl (zac rfl) (t0_ (t0_ (t0_ (t0_ eR)))) (zby (Ent.trans (t1_ eR) (zbl hgv)) (zag rfl foc0 rfl Tryz.isAgg9)) rfl <| aN 6 127 rfl rfl (zaa rfl ⟨_,_,_,Tryz.runUnderlying135,rfl,rfl,Tryz.sizeOf33,rfl⟩) rfl <| aV 7 255 rfl rfl (zac rfl) (t0_ (t0_ (t0_ (t0_ eR)))) (zbo rfl foc2 Tryz.isAgg33 Tryz.sizeOf33 rfl rfl) rfl <| zkr 8 9 511 767 rfl rfl (by kernel_rfl) rfl rfl (zac rfl) (zac rfl) (zaq ((zge (nm:=((m.rsI k1 i).at ((m.at k1).wait.getD i Wt.z).gv).name) (t:=((m.at k1).wait.getD i Wt.z).t) (by omega) hog.2.2.2 (by rw [Md.at_find hO2 hgv.1 hgv.2.1]; rfl) ⟨hog.2.1,hog.2.2.1⟩)) rfl Tryz.call82 (Dels.cons del0 (Dels.cons del0 Dels.nil)) rfl (fun c9 h9 => ?_)) (zb1 Tryz.zeroValue51 rfl rfl (fun b30 => ?_))
       ·
        refine ⟨fun h=>absurd h (by decide),?_⟩
        refine zrd 9 1023 rfl (by kernel_rfl) rfl (zac rfl) Tryz.zeroValue51 rfl rfl fun b31=>AJ_op 10 2047 rfl (by kernel_rfl) rfl (zac rfl) <| zbj rfl rfl foc0 Tryz.sizeOf51 rfl rfl rfl <| ⟨fun h=>absurd h (by decide),?_⟩
        refine aD <| zad <| zbd (t0_ (Ent.takeC del0 (congrArg (blk b 84) h9.1.symm) (t0_ (t0_ (t0_ eR))))) <| zai <| oP (zaa rfl ⟨_,_,_,Tryz.runUnderlying135,rfl,rfl,Tryz.sizeOf3,rfl⟩) rfl <| oV (zag rfl foc3 rfl Tryz.isAgg3) rfl <| oP (zaa rfl ⟨_,_,_,Tryz.runUnderlying51,rfl,rfl,Tryz.sizeOf3,rfl⟩) rfl <| oO <| zbh rfl rfl foc0 rfl rfl Tryz.sizeOf3 <| nT <| zbd (Ent.trans (t2_ eR) zhr) ?_
        have hto9:((m.rsI k1 i).carryN ((m.rsI k1 i).dv.length + 1) ((m.rsI k1 i).at ((m.at k1).wait.getD i Wt.z).gv).name ((m.at k1).wait.getD i Wt.z).t).2.told=(m.rsI k1 i).told := by rw [zfz hO2 hgv.1 hgv.2.1]; exact (Md.carry_kept _ _ _).told
        have hto8 := congrArg List.length hto9
        refine za4 1152 (by kernel_rfl) rfl <| aN 0 1 rfl rfl (zah rfl) rfl <| aN 1 3 rfl rfl (zah rfl) rfl <| aN 2 7 rfl rfl (zaf rfl) rfl <| aN 3 15 rfl rfl (zaa rfl ⟨_,_,_,Tryz.runUnderlying84,rfl,rfl,Tryz.sizeOf54,rfl⟩) rfl <| aV 4 31 rfl rfl (zac rfl) (t0_ (t0_ (t0_ (t0_ (t0_ (t0_ eR)))))) (zag rfl foc3 rfl Tryz.isAgg54) rfl <| aV 5 63 rfl rfl (zac rfl) (t0_ (t0_ (t0_ (t0_ (t0_ (t0_ eR)))))) (zbo rfl foc2 Tryz.isAgg51 Tryz.sizeOf51 rfl rfl) rfl <| AJ_op 6 127 rfl (by kernel_rfl) rfl (zac rfl) <| za7 rfl (zfh _ _ _ _) rfl fun b32=>⟨fun _=>(t1_ (t1_ (t1_ (t1_ (t1_ (t1_ (eD eR))))))),?_⟩
        refine AJ_op 7 255 rfl (by kernel_rfl) rfl (zac rfl) <| zbv (t:=tyapi_Answer) (bytes:=32) rfl rfl del1 foc0 (Reads.lit (t:=tyapi_Answer) (ys:=[⟨true,(((m.at k1).wait.getD i Wt.z).tk:Int),(ansN (m.rsI k1 i) ((m.rsI k1 i).at ((m.at k1).wait.getD i Wt.z).gv).name ((m.at k1).wait.getD i Wt.z).t).Value,(ansN (m.rsI k1 i) ((m.rsI k1 i).at ((m.at k1).wait.getD i Wt.z).gv).name ((m.at k1).wait.getD i Wt.z).t).Error⟩]) rfl rfl (by decide) (by decide) rfl) Tryz.underlying54 zea (by simp only [List.length_append,List.length_map,List.length_cons,List.length_nil,maxLen] at *; omega) (by simp only [List.length_append,List.length_map,List.length_cons,List.length_nil,maxLen] at *; omega) rfl fun p33 c34=>⟨fun h=>absurd h (by decide),?_⟩
        refine aN 8 511 rfl rfl (zaf rfl) rfl <| aN 9 1023 rfl rfl (zaa rfl ⟨_,_,_,Tryz.runUnderlying84,rfl,rfl,Tryz.sizeOf54,rfl⟩) rfl <| AJ_op 10 2047 rfl (by kernel_rfl) rfl (zac rfl) <| zbh rfl rfl foc4 rfl rfl Tryz.sizeOf54 <| ⟨fun h=>absurd h (by decide),?_⟩
        refine zds (by kernel_rfl) <| zak <| zat <| zai <| oP (P_add rfl rfl (by omega)) rfl <| oM rfl rfl <| za0 ?_
        have he2:m.rsI k1 (i + 1) = { { ((m.rsI k1 i).carryN ((m.rsI k1 i).dv.length + 1) ((m.rsI k1 i).at ((m.at k1).wait.getD i Wt.z).gv).name ((m.at k1).wait.getD i Wt.z).t).2 with told := [] } with told := ((m.rsI k1 i).carryN ((m.rsI k1 i).dv.length + 1) ((m.rsI k1 i).at ((m.at k1).wait.getD i Wt.z).gv).name ((m.at k1).wait.getD i Wt.z).t).2.told ++ [⟨true,(((m.at k1).wait.getD i Wt.z).tk:Int),(ansN (m.rsI k1 i) ((m.rsI k1 i).at ((m.at k1).wait.getD i Wt.z).gv).name ((m.at k1).wait.getD i Wt.z).t).Value,(ansN (m.rsI k1 i) ((m.rsI k1 i).at ((m.at k1).wait.getD i Wt.z).gv).name ((m.at k1).wait.getD i Wt.z).t).Error⟩] } := by
          unfold ansN
          rw [Md.rsI_succ hi2,Md.rsT_go hnw,zfz hO2 hgv.1 hgv.2.1]
        have htl9:(((m.rsI k1 i).carryN ((m.rsI k1 i).dv.length + 1) ((m.rsI k1 i).at ((m.at k1).wait.getD i Wt.z).gv).name ((m.at k1).wait.getD i Wt.z).t).2.told ++ [(⟨true,(((m.at k1).wait.getD i Wt.z).tk:Int),(ansN (m.rsI k1 i) ((m.rsI k1 i).at ((m.at k1).wait.getD i Wt.z).gv).name ((m.at k1).wait.getD i Wt.z).t).Value,(ansN (m.rsI k1 i) ((m.rsI k1 i).at ((m.at k1).wait.getD i Wt.z).gv).name ((m.at k1).wait.getD i Wt.z).t).Error⟩:api_Answer)]).length≤100000000 := by rw [List.length_append,hto9]; simp; omega
        refine za6 ⟨i + 1, { { c9 with tv := s3z } with tv := ⟨p33,(((m.rsI k1 i).carryN ((m.rsI k1 i).dv.length + 1) ((m.rsI k1 i).at ((m.at k1).wait.getD i Wt.z).gv).name ((m.at k1).wait.getD i Wt.z).t).2.told ++ [(⟨true,(((m.at k1).wait.getD i Wt.z).tk:Int),(ansN (m.rsI k1 i) ((m.rsI k1 i).at ((m.at k1).wait.getD i Wt.z).gv).name ((m.at k1).wait.getD i Wt.z).t).Value,(ansN (m.rsI k1 i) ((m.rsI k1 i).at ((m.at k1).wait.getD i Wt.z).gv).name ((m.at k1).wait.getD i Wt.z).t).Error⟩:api_Answer)]).length,c34⟩ }⟩ (by show (m.at k1).wait.length - (i + 1) < (m.at k1).wait.length - i; omega) ?_ (by repeat (first | exact Kp.base | exact Kp.self | refine Kp.cons rfl ?_ | refine Kp.forget rfl ?_)) ?_ (Ent.trans (Ent.trans (t0_ (t1_ eR)) (zi7 (tv:=⟨p33,(((m.rsI k1 i).carryN ((m.rsI k1 i).dv.length + 1) ((m.rsI k1 i).at ((m.at k1).wait.getD i Wt.z).gv).name ((m.at k1).wait.getD i Wt.z).t).2.told ++ [(⟨true,(((m.at k1).wait.getD i Wt.z).tk:Int),(ansN (m.rsI k1 i) ((m.rsI k1 i).at ((m.at k1).wait.getD i Wt.z).gv).name ((m.at k1).wait.getD i Wt.z).t).Value,(ansN (m.rsI k1 i) ((m.rsI k1 i).at ((m.at k1).wait.getD i Wt.z).gv).name ((m.at k1).wait.getD i Wt.z).t).Error⟩:api_Answer)]).length,c34⟩) htl9)) (Ent.takeC del5 (by exact congrArg (fun f=>sl tyErr (c.hd k1).wt.v ((m.at k1).wait.map (wC f))) h9.2.symm) (Ent.takeC del3 (by rw [he2] <;> rfl) (Ent.takeC del0 (by rw [he2] <;> rfl) (eD (eD (eD eR)))))))
        · omega
        · exact ⟨rfl,True.intro⟩
       ·
        refine ⟨fun _=>(t1_ (t1_ (t1_ (t1_ (eD eR))))),?_⟩
        refine AJ_op 8 1023 rfl (by kernel_rfl) rfl (zac rfl) <| zaq ((zge (nm:=((m.rsI k1 i).at ((m.at k1).wait.getD i Wt.z).gv).name) (t:=((m.at k1).wait.getD i Wt.z).t) (by omega) hog.2.2.2 (by rw [Md.at_find hO2 hgv.1 hgv.2.1]; rfl) ⟨hog.2.1,hog.2.2.1⟩)) rfl Tryz.call82 (Dels.cons del1 (Dels.cons del1 Dels.nil)) rfl fun c9 h9=>⟨fun h=>absurd h (by decide),?_⟩
        refine AJ_op 10 2047 rfl (by kernel_rfl) rfl (zac rfl) <| zbj rfl rfl foc2 Tryz.sizeOf51 rfl rfl rfl <| ⟨fun h=>absurd h (by decide),?_⟩
        refine aD <| zad <| zbd (Ent.takeC del0 (congrArg (blk b 84) h9.1.symm) (t0_ (t0_ (t0_ (t0_ eR))))) <| zai <| oP (zaa rfl ⟨_,_,_,Tryz.runUnderlying135,rfl,rfl,Tryz.sizeOf3,rfl⟩) rfl <| oV (zag rfl foc3 rfl Tryz.isAgg3) rfl <| oP (zaa rfl ⟨_,_,_,Tryz.runUnderlying51,rfl,rfl,Tryz.sizeOf3,rfl⟩) rfl <| oO <| zbh rfl rfl foc2 rfl rfl Tryz.sizeOf3 <| nT <| zbd (Ent.trans (t1_ eR) zhr) ?_
        have hto9:((m.rsI k1 i).carryN ((m.rsI k1 i).dv.length + 1) ((m.rsI k1 i).at ((m.at k1).wait.getD i Wt.z).gv).name ((m.at k1).wait.getD i Wt.z).t).2.told=(m.rsI k1 i).told := by rw [zfz hO2 hgv.1 hgv.2.1]; exact (Md.carry_kept _ _ _).told
        have hto8 := congrArg List.length hto9
        refine za4 1152 (by kernel_rfl) rfl <| aN 0 1 rfl rfl (zah rfl) rfl <| aN 1 3 rfl rfl (zah rfl) rfl <| aN 2 7 rfl rfl (zaf rfl) rfl <| aN 3 15 rfl rfl (zaa rfl ⟨_,_,_,Tryz.runUnderlying84,rfl,rfl,Tryz.sizeOf54,rfl⟩) rfl <| aV 4 31 rfl rfl (zac rfl) (t0_ (t0_ (t0_ (t0_ (t0_ (t0_ eR)))))) (zag rfl foc2 rfl Tryz.isAgg54) rfl <| aV 5 63 rfl rfl (zac rfl) (t0_ (t0_ (t0_ (t0_ (t0_ (t0_ eR)))))) (zbo rfl foc3 Tryz.isAgg51 Tryz.sizeOf51 rfl rfl) rfl <| AJ_op 6 127 rfl (by kernel_rfl) rfl (zac rfl) <| za7 rfl (zfh _ _ _ _) rfl fun b36=>⟨fun _=>(t1_ (t1_ (t1_ (t1_ (t1_ (t1_ (eD eR))))))),?_⟩
        refine AJ_op 7 255 rfl (by kernel_rfl) rfl (zac rfl) <| zbv (t:=tyapi_Answer) (bytes:=32) rfl rfl del1 foc0 (Reads.lit (t:=tyapi_Answer) (ys:=[⟨true,(((m.at k1).wait.getD i Wt.z).tk:Int),(ansN (m.rsI k1 i) ((m.rsI k1 i).at ((m.at k1).wait.getD i Wt.z).gv).name ((m.at k1).wait.getD i Wt.z).t).Value,(ansN (m.rsI k1 i) ((m.rsI k1 i).at ((m.at k1).wait.getD i Wt.z).gv).name ((m.at k1).wait.getD i Wt.z).t).Error⟩]) rfl rfl (by decide) (by decide) rfl) Tryz.underlying54 zea (by simp only [List.length_append,List.length_map,List.length_cons,List.length_nil,maxLen] at *; omega) (by simp only [List.length_append,List.length_map,List.length_cons,List.length_nil,maxLen] at *; omega) rfl fun p37 c38=>⟨fun h=>absurd h (by decide),?_⟩
        refine aN 8 511 rfl rfl (zaf rfl) rfl <| aN 9 1023 rfl rfl (zaa rfl ⟨_,_,_,Tryz.runUnderlying84,rfl,rfl,Tryz.sizeOf54,rfl⟩) rfl <| AJ_op 10 2047 rfl (by kernel_rfl) rfl (zac rfl) <| zbh rfl rfl foc3 rfl rfl Tryz.sizeOf54 <| ⟨fun h=>absurd h (by decide),?_⟩
        refine zds (by kernel_rfl) <| zak <| zat <| zai <| oP (P_add rfl rfl (by omega)) rfl <| oM rfl rfl <| za0 ?_
        have he2:m.rsI k1 (i + 1) = { { ((m.rsI k1 i).carryN ((m.rsI k1 i).dv.length + 1) ((m.rsI k1 i).at ((m.at k1).wait.getD i Wt.z).gv).name ((m.at k1).wait.getD i Wt.z).t).2 with told := [] } with told := ((m.rsI k1 i).carryN ((m.rsI k1 i).dv.length + 1) ((m.rsI k1 i).at ((m.at k1).wait.getD i Wt.z).gv).name ((m.at k1).wait.getD i Wt.z).t).2.told ++ [⟨true,(((m.at k1).wait.getD i Wt.z).tk:Int),(ansN (m.rsI k1 i) ((m.rsI k1 i).at ((m.at k1).wait.getD i Wt.z).gv).name ((m.at k1).wait.getD i Wt.z).t).Value,(ansN (m.rsI k1 i) ((m.rsI k1 i).at ((m.at k1).wait.getD i Wt.z).gv).name ((m.at k1).wait.getD i Wt.z).t).Error⟩] } := by
          unfold ansN
          rw [Md.rsI_succ hi2,Md.rsT_go hnw,zfz hO2 hgv.1 hgv.2.1]
        have htl9:(((m.rsI k1 i).carryN ((m.rsI k1 i).dv.length + 1) ((m.rsI k1 i).at ((m.at k1).wait.getD i Wt.z).gv).name ((m.at k1).wait.getD i Wt.z).t).2.told ++ [(⟨true,(((m.at k1).wait.getD i Wt.z).tk:Int),(ansN (m.rsI k1 i) ((m.rsI k1 i).at ((m.at k1).wait.getD i Wt.z).gv).name ((m.at k1).wait.getD i Wt.z).t).Value,(ansN (m.rsI k1 i) ((m.rsI k1 i).at ((m.at k1).wait.getD i Wt.z).gv).name ((m.at k1).wait.getD i Wt.z).t).Error⟩:api_Answer)]).length≤100000000 := by rw [List.length_append,hto9]; simp; omega
        refine za6 ⟨i + 1, { { c9 with tv := s3z } with tv := ⟨p37,(((m.rsI k1 i).carryN ((m.rsI k1 i).dv.length + 1) ((m.rsI k1 i).at ((m.at k1).wait.getD i Wt.z).gv).name ((m.at k1).wait.getD i Wt.z).t).2.told ++ [(⟨true,(((m.at k1).wait.getD i Wt.z).tk:Int),(ansN (m.rsI k1 i) ((m.rsI k1 i).at ((m.at k1).wait.getD i Wt.z).gv).name ((m.at k1).wait.getD i Wt.z).t).Value,(ansN (m.rsI k1 i) ((m.rsI k1 i).at ((m.at k1).wait.getD i Wt.z).gv).name ((m.at k1).wait.getD i Wt.z).t).Error⟩:api_Answer)]).length,c38⟩ }⟩ (by show (m.at k1).wait.length - (i + 1) < (m.at k1).wait.length - i; omega) ?_ (by repeat (first | exact Kp.base | exact Kp.self | refine Kp.cons rfl ?_ | refine Kp.forget rfl ?_)) ?_ (Ent.trans (Ent.trans (t0_ (t1_ eR)) (zi7 (tv:=⟨p37,(((m.rsI k1 i).carryN ((m.rsI k1 i).dv.length + 1) ((m.rsI k1 i).at ((m.at k1).wait.getD i Wt.z).gv).name ((m.at k1).wait.getD i Wt.z).t).2.told ++ [(⟨true,(((m.at k1).wait.getD i Wt.z).tk:Int),(ansN (m.rsI k1 i) ((m.rsI k1 i).at ((m.at k1).wait.getD i Wt.z).gv).name ((m.at k1).wait.getD i Wt.z).t).Value,(ansN (m.rsI k1 i) ((m.rsI k1 i).at ((m.at k1).wait.getD i Wt.z).gv).name ((m.at k1).wait.getD i Wt.z).t).Error⟩:api_Answer)]).length,c38⟩) htl9)) (Ent.takeC del5 (by exact congrArg (fun f=>sl tyErr (c.hd k1).wt.v ((m.at k1).wait.map (wC f))) h9.2.symm) (Ent.takeC del2 (by rw [he2] <;> rfl) (Ent.takeC del0 (by rw [he2] <;> rfl) (eD (eD (eD eR)))))))
        · omega
        · exact ⟨rfl,True.intro⟩
     ·
      refine zbg <| zaw <| zav <| zau <| zat <| sR <| oA rfl rfl <| nT <| zaj <| zan (res1 Tryz.results34 rfl) ?_
      obtain rfl:i=(m.at k1).wait.length := by omega
      have e1 := Md.rs_ok hd2 hst hft
      rw [e1.2, ← Md.rsI_end]
      refine CSpec.close c2 ?_ ?_ (t1_ (t1_ (eD eR)))
      · rw [e1.1]
      · trivial
end Go.Proofs
set_option linter.unusedSimpArgs false
set_option maxRecDepth 20000
namespace Go.Proofs
open Go.VG
theorem zo0:∀ w,(Instr.build 98 (#[]:Array (Nat × Value))).run Tryz.prog w = .ok (.agg #[.string ByteArray.empty,.bool false,.slice none 0 0,.slice none 0 0,.bool false,.bool false,.int .i64 0,.int .i64 0]) w := fun w=>by kernel_rfl
theorem zg5 (v0:ByteArray) (v1:Bool) (v2:(Option Addr)) (v3:Nat) (v4:Nat) (v5:(Option Addr)) (v6:Nat) (v7:Nat) (v8:Bool) (v9:Bool) (v10:Int) (v11:Int):∀ w,(Instr.build 98 (#[(0,.string v0),(1,.bool v1),(2,.slice v2 v3 v4),(3,.slice v5 v6 v7),(4,.bool v8),(5,.bool v9),(6,.int .i64 v10),(7,.int .i64 v11)]:Array (Nat × Value))).run Tryz.prog w = .ok (.agg #[.string v0,.bool v1,.slice v2 v3 v4,.slice v5 v6 v7,.bool v8,.bool v9,.int .i64 v10,.int .i64 v11]) w := fun w=>by kernel_rfl
namespace Md
def stE (m:Md) (n:ByteArray):Int := match m.dev n with | none=>12 | some _=>0
def stD (m:Md) (n:ByteArray):Dv := match m.dev n with | none=>Dv.z | some k=>m.at k
def stN (m:Md) (n:ByteArray):ByteArray := match m.dev n with | none=>ByteArray.empty | some _=>n
def stU (m:Md) (n:ByteArray):Nat := match m.dev n with | none=>0 | some _=>m.users n
theorem st_none {m:Md} {n:ByteArray} (h:m.dev n=none):m.stE n=12∧m.stD n=Dv.z∧m.stN n=ByteArray.empty∧m.stU n=0 := by unfold stE stD stN stU; rw [h]; exact ⟨rfl,rfl,rfl,rfl⟩
theorem st_some {m:Md} {n:ByteArray} {k:Nat} (h:m.dev n=some k):m.stE n=0∧m.stD n=m.at k∧m.stN n=n∧m.stU n=m.users n := by unfold stE stD stN stU; rw [h]; exact ⟨rfl,rfl,rfl,rfl⟩
end Md
abbrev stV (m:Md) (n:ByteArray) (a b:Sl3):Value := .agg #[.string (m.stN n),.bool (m.stD n).susp,a.v,b.v,.bool (m.stD n).hl,.bool (m.stD n).hn,.int .i64 ((m.stD n).wait.length:Int),.int .i64 (m.stU n:Int)]
theorem zxr {W:World} {b:Nat} {c:MH} {m:Md} {n:ByteArray} :
    CSpec Tryz.prog W 44 [ptr b 0,.string n] [blk b 84 (za3 c m),MapR c m] (fun x:Sl3 × Sl3 => .tuple #[stV m n x.1 x.2,.int .i64 (m.stE n)]) (fun _=>True) (fun x F=>sl tyapi_Target x.1.v (m.stD n).live::sl tyapi_Target x.2.v (m.stD n).new::blk b 84 (za3 c m)::MapR c m::F) := by
 refine CSpec.of_body Tryz.func44 rfl Tryz.ntmps44 rfl fun F => ?_
 show CJ _ _ _ _ _ _ (_::_::F)
 refine zba (zb4 foc1) fun hW => ?_
 have hO := hW.ok
 have hns := Md.names_len (m:=m)
 have hln := hW.big.len
 refine sR <| oO <| zb1 Tryz.zeroValue98 rfl rfl fun b1=>oA rfl rfl <| nT <| sR <| oM rfl rfl <| oP (zaf rfl) rfl <| oP (zaa rfl ⟨_,_,_,Tryz.runUnderlying84,rfl,rfl,Tryz.sizeOf82,rfl⟩) rfl <| oV (zag rfl foc1 rfl Tryz.isAgg82) rfl <| oM rfl rfl <| oO (zeb rfl rfl foc2 rfl (fun hd3 => ?_) (fun k2 hd3 => ?_))
 ·
  refine oA rfl rfl <| nT <| zad <| sR <| oM rfl rfl <| oP (zgk rfl rfl Tryz.underlying85) rfl <| nT <| zbk rfl rfl <| sR <| oP (zbm rfl (zo0)) rfl <| oO <| zbj rfl rfl foc0 Tryz.sizeOf98 rfl rfl rfl <| oA rfl rfl <| nT <| zaj <| zae <| zan (resA2 Tryz.results44 (zb8 rfl foc0 Tryz.isAgg98 Tryz.sizeOf98 rfl rfl) (zcy rfl)) ?_
  obtain ⟨e1,e2,e3,e4⟩ := Md.st_none hd3
  rw [e2]
  refine CSpec.close ⟨⟨none,0,0⟩,⟨none,0,0⟩⟩ ?_ ?_ (Ent.trans (fun h hh=>zb2 (t:=tyapi_Target) h hh) (Ent.trans (fun h hh=>zb2 (t:=tyapi_Target) h hh) (t0_ (t0_ (t1_ (t1_ (eD eR)))))))
  ·
   rw [e1]
   unfold stV
   rw [e2,e3,e4]
   rfl
  · trivial
 ·
  refine oA rfl rfl <| nT <| zad <| sR <| oM rfl rfl <| oP (zd3 rfl rfl Tryz.underlying85) rfl <| nT <| zbf rfl rfl <| kT <| zad ?_
  have hdk := Md.dev_is hd3
  have hc1 := zbx (hO.chk k2).1
  have hc2 := zbx (hO.chk k2).2
  refine zdl [blk b 84 (za3 c m),MapR c m] 0 (by kernel_rfl) rfl <| aN 0 1 rfl rfl (zah rfl) rfl <| aN 1 3 rfl rfl (zah rfl) rfl <| aN 2 7 rfl rfl (zaf rfl) rfl <| aN 3 15 rfl rfl (zaa rfl ⟨_,_,_,Tryz.runUnderlying111,rfl,rfl,Tryz.sizeOf4,rfl⟩) rfl <| aV 4 31 rfl rfl (zac rfl) (t1_ (t1_ (eD (fun _ _=>trivial)))) (zby (Ent.trans (t1_ eR) (zbl (Md.dev_is hd3).1)) (zag rfl foc0 rfl Tryz.isAgg4)) rfl <| aN 5 63 rfl rfl (zah rfl) rfl <| aN 6 127 rfl rfl (zaf rfl) rfl <| aN 7 255 rfl rfl (zaa rfl ⟨_,_,_,Tryz.runUnderlying111,rfl,rfl,Tryz.sizeOf30,rfl⟩) rfl <| aV 8 511 rfl rfl (zac rfl) (t1_ (t1_ (eD (fun _ _=>trivial)))) (zby (Ent.trans (t1_ eR) (zbl (Md.dev_is hd3).1)) (zag rfl foc0 rfl Tryz.isAgg30)) rfl <| aN 10 1535 rfl rfl (zah rfl) rfl <| aN 11 3583 rfl rfl (zaf rfl) rfl <| aN 12 7679 rfl rfl (zaa rfl ⟨_,_,_,Tryz.runUnderlying111,rfl,rfl,Tryz.sizeOf30,rfl⟩) rfl <| aV 13 15871 rfl rfl (zac rfl) (t1_ (t1_ (eD (fun _ _=>trivial)))) (zby (Ent.trans (t1_ eR) (zbl (Md.dev_is hd3).1)) (zag rfl foc0 rfl Tryz.isAgg30)) rfl <| aN 15 48639 rfl rfl (zah rfl) rfl <| aN 16 114175 rfl rfl (zaf rfl) rfl <| aN 17 245247 rfl rfl (zaa rfl ⟨_,_,_,Tryz.runUnderlying111,rfl,rfl,Tryz.sizeOf4,rfl⟩) rfl ?_
  refine aV 18 507391 rfl rfl (zac rfl) (t1_ (t1_ (eD (fun _ _=>trivial)))) (zby (Ent.trans (t1_ eR) (zbl (Md.dev_is hd3).1)) (zag rfl foc0 rfl Tryz.isAgg4)) rfl <| aN 19 1031679 rfl rfl (zah rfl) rfl <| aN 20 2080255 rfl rfl (zaf rfl) rfl <| aN 21 4177407 rfl rfl (zaa rfl ⟨_,_,_,Tryz.runUnderlying111,rfl,rfl,Tryz.sizeOf4,rfl⟩) rfl <| aV 22 8371711 rfl rfl (zac rfl) (t1_ (t1_ (eD (fun _ _=>trivial)))) (zby (Ent.trans (t1_ eR) (zbl (Md.dev_is hd3).1)) (zag rfl foc0 rfl Tryz.isAgg4)) rfl <| aN 23 16760319 rfl rfl (zah rfl) rfl <| aN 24 33537535 rfl rfl (zaf rfl) rfl <| aN 25 67091967 rfl rfl (zaa rfl ⟨_,_,_,Tryz.runUnderlying111,rfl,rfl,Tryz.sizeOf109,rfl⟩) rfl <| aV 26 134200831 rfl rfl (zac rfl) (t1_ (t1_ (eD (fun _ _=>trivial)))) (zby (Ent.trans (t1_ eR) (zbl (Md.dev_is hd3).1)) (zag rfl foc0 rfl Tryz.isAgg109)) rfl <| aV 27 268418559 rfl rfl (zac rfl) (t1_ (t1_ (eD (fun _ _=>trivial)))) (V_len rfl foc1 (zny (Md.dev_is hd3).1) Tryz.runUnderlying109) rfl <| aN 28 536854015 rfl rfl (zah rfl) rfl <| aN 29 1073724927 rfl rfl (zah rfl) rfl ?_
  refine AJ_op 9 1073725439 rfl (by kernel_rfl) rfl (zac rfl) <| zaq (zm5 (zcg (Md.dev_is hd3).1) (by first | assumption | omega)) rfl Tryz.call74 (Dels.cons del2 Dels.nil) rfl fun cx4 hc6=>⟨fun _=>(t3_ (t1_ (eD (eD (fun _ _=>trivial))))),?_⟩
  refine AJ_op 14 1073741823 rfl (by kernel_rfl) rfl (zac rfl) <| zaq (zm5 (rdNew (Md.dev_is hd3).1) (by first | assumption | omega)) rfl Tryz.call74 (Dels.cons del1 Dels.nil) rfl fun cx7 hc9=>⟨fun _=>(t4_ (t1_ (eD (eD (eD (fun _ _=>trivial)))))),?_⟩
  refine AJ_op 30 2147483647 rfl (by kernel_rfl) rfl (zac rfl) <| zaq (zl3) rfl Tryz.call57 (Dels.cons del4 (Dels.cons del1 Dels.nil)) rfl fun _ hc11=>⟨fun _=>(t1_ (t1_ (eD (eD (eD (eD (fun _ _=>trivial))))))),?_⟩
  refine AJ_op 31 4294967295 rfl (by kernel_rfl) rfl (zac rfl) <| OJ_V (V_len rfl foc0 (Reads.sl _ _ _) Tryz.runUnderlying113) rfl <| ⟨fun _=>(t1_ (t1_ (eD (eD (eD (eD (fun _ _=>trivial))))))),?_⟩
  refine aN 32 8589934591 rfl rfl (zbm rfl (zg5 _ _ _ _ _ _ _ _ _ _ _ _)) rfl <| AJ_op 33 17179869183 rfl (by kernel_rfl) rfl (zac rfl) <| zbj rfl rfl foc5 Tryz.sizeOf98 rfl rfl rfl <| ⟨fun _=>(t1_ (t1_ (eD (eD (eD (eD (fun _ _=>trivial))))))),?_⟩
  refine aN 34 34359738367 rfl rfl (zbc rfl) rfl <| aD <| zaj <| zan (resA2 Tryz.results44 (zb8 rfl foc5 Tryz.isAgg98 Tryz.sizeOf98 rfl rfl) (zcy rfl)) ?_
  obtain ⟨e1,e2,e3,e4⟩ := Md.st_some hd3
  rw [e2]
  refine CSpec.close ⟨cx4,cx7⟩ ?_ ?_ (t4_ (t3_ (t1_ (t1_ (eD (eD eR))))))
  ·
   rw [e1]
   unfold stV
   rw [e2,e3,e4]
   rw [show ((m.at k2).wait.map (wC c.bs)).length=(m.at k2).wait.length by simp,show ((m.usersN n).map c.bs).length=m.users n by rw [List.length_map,Md.users_len hO]]
   rfl
  · trivial
end Go.Proofs
set_option linter.unusedSimpArgs false
set_option maxRecDepth 20000
namespace Go.Proofs
open Go.VG
theorem zmd (v0:(Option Nat)) (v1:(Option Nat)):∀ w,(Instr.build 84 (#[(0,.map v0),(1,.map v1)]:Array (Nat × Value))).run Tryz.prog w = .ok (.agg #[.map v0,.map v1,.slice none 0 0,.int .i64 0,.slice none 0 0]) w := fun w=>by kernel_rfl
abbrev bNew (n:ByteArray) (z:Nat):Dv := { Dv.z with name := n,isB := true,base := List.replicate z 0 }
abbrev hBas (p dn:Nat):DH := ⟨p,dn,s3z,s3z,s3z⟩
abbrev Md.z:Md := ⟨[],0,[],0,0⟩
theorem Md.z_ok:MdOk Md.z := ⟨fun i j h=>absurd h (Nat.not_lt_zero _),fun i h=>absurd h (Nat.not_lt_zero _),fun i=>⟨rfl,rfl⟩,fun i h=>absurd h (Nat.not_lt_zero _),⟨fun _=>0,fun i h=>absurd h (Nat.not_lt_zero _)⟩,(fun i h=>by cases h),fun _ _=>rfl,fun _ _=>rfl,fun i h=>absurd h (Nat.not_lt_zero _)⟩
theorem Md.z_big:MdBig Md.z := ⟨Nat.zero_le _,fun _=>Nat.zero_le _,Nat.zero_le _,Nat.zero_le _,Nat.zero_le _⟩
section
variable {c:MH} {m:Md} {R:List HP} {n:ByteArray} {p dn z:Nat} {ov:Sl3}
theorem zjp (h:m.addE n=0):m.baS n z=m.push (bNew n z)∧m.find n=none∧n≠noN∧m.names.length < 256 := ⟨by unfold Md.baS Md.addS; exact if_pos h,(cr_ok h).2⟩
theorem MapWF.addB (hW:MapWF c m) (h0:m.addE n=0) (hlen:m.dv.length + 1≤10000) (hz:z≤65536) (h1:dn < c.s.drv.length) (h2:nowL c.s dn=List.replicate z 0) (h3:∀ i,m.isBs i→(c.hd i).dn≠dn):MapWF (c.push ov c.dl (setM c.bl n p) (hBas p dn) (bNew n z)) (m.push (bNew n z)) := by
  obtain ⟨_,hf,hn,_⟩ := zjp (z:=z) h0
  have ok := hW.ok.push (d:=bNew n z) rfl hn hf rfl rfl rfl rfl rfl rfl (by simp; exact hz)
  have big := hW.big.push (d:=bNew n z) hlen rfl
  refine hW.push ok big rfl hf (fun x => ?_) (fun x=>by rw [zjy]; rfl) (fun h=>by cases h) (fun _=>⟨h1,h2,by simp; exact hz,h3⟩)
  by_cases e:x=n
  · rw [if_pos e,hW.dl,e]
    have:m.dev n=none := by unfold Md.dev; rw [hf]; rfl
    rw [this]; rfl
  · rw [if_neg e]
theorem zvs (hW:MapWF c m) (hw:MapWF (c.push ov c.dl (setM c.bl n p) (hBas p dn) (bNew n z)) (m.push (bNew n z))) :
    Ent (blkR p 161 [ptr c.a 0,.int .i64 (dn:Int),.int .i64 0,.int .i64 (z:Int)]::Go.VG.Own (DevC c.a c.bs) c.l::mpc mBas c.bm (setM c.bl n p)::mpc mDev c.dm c.dl::sl tyS ov.v (m.names ++ [n])::sl tyapi_Answer c.tv.v m.told::Arr c.a c.s::R) (MapR (c.push ov c.dl (setM c.bl n p) (hBas p dn) (bNew n z)) (m.push (bNew n z))::R) := by
  have h := zpn (R:=R) (h:=hBas p dn) (d:=bNew n z) hW rfl rfl hw
  rw [ziw rfl rfl,show ((bNew n z).base.length:Int)=(z:Int) by simp] at h
  exact h
theorem zy9 {a bm dm:Nat} {s:ArrS} (hg:Good s) (hw:s.writes=0):MapWF ⟨bm,dm,a,s3z,s3z,[],[],[],s⟩ Md.z :=
  ⟨rfl,Md.z_ok,Md.z_big,fun n=>rfl,fun n=>rfl,fun i j h=>absurd h.1 (Nat.not_lt_zero _),hg,fun k h=>absurd h.1 (Nat.not_lt_zero _),fun i j h=>absurd h.1 (Nat.not_lt_zero _),by show s.writes≤0; omega⟩
theorem zvt {a bm dm:Nat} {s:ArrS} (hg:Good s) (hw:s.writes=0):Ent (mpc mBas bm []::mpc mDev dm []::Arr a s::R) (MapR ⟨bm,dm,a,s3z,s3z,[],[],[],s⟩ Md.z::R) := fun g hh=>by
  refine stars_star.2 (stars_pur.2 ⟨zy9 hg hw,?_⟩)
  have h1:stars (Go.VG.Own (DevC a (MH.bs ⟨bm,dm,a,s3z,s3z,[],[],[],s⟩)) []::sl tyapi_Answer (Sl3.v s3z) []::sl tyS (Sl3.v s3z) []::mpc mBas bm []::mpc mDev dm []::Arr a s::R) g := zok _ _ (zb2 _ (zb2 _ hh))
  exact (Ent.take del3 (Ent.take del3 (Ent.take del2 (Ent.take del1 (Ent.take del0 (Ent.take del0 Ent.refl)))))) g h1
end
theorem zn8 {W:World} {b p dn z:Nat} {c:MH} {m:Md} {n:ByteArray} (hlen:m.dv.length + 1≤10000) (h0:m.addE n=0) (hz:z≤65536) (h1:dn < c.s.drv.length) (h2:nowL c.s dn=List.replicate z 0) (h3:∀ i,m.isBs i→(c.hd i).dn≠dn) :
    CSpec Tryz.prog W 20 [ptr b 0,.string n,.iface 159 (ptr p 0)] [blkR p 161 [ptr c.a 0,.int .i64 (dn:Int),.int .i64 0,.int .i64 (z:Int)],blk b 84 (za3 c m),MapR c m] (fun _:MH => .int .i64 0) (fun c2 => ∃ ov,c2=c.push ov c.dl (setM c.bl n p) (hBas p dn) (bNew n z)) (fun c2 F=>blk b 84 (za3 c2 (m.push (bNew n z)))::MapR c2 (m.push (bNew n z))::F) := by
 refine CSpec.of_body Tryz.func20 rfl Tryz.ntmps20 rfl fun F => ?_
 show CJ _ _ _ _ _ _ (_::_::_::F)
 refine zba (zb4 foc2) fun hW => ?_
 have hns := Md.names_len (m:=m)
 refine zbd (Ent.trans (t2_ eR) zgr) <| sR <| oA rfl rfl <| nT <| sR <| oM rfl rfl <| oM rfl rfl <| oO <| zaq (c_add (by omega)) rfl Tryz.call54 (Dels.cons del2 (Dels.cons del6 Dels.nil)) rfl fun ov9 hov9=>oA rfl rfl <| nT <| zad <| sR <| oM rfl rfl <| oP (P_eql rfl rfl) rfl <| nT ?_
 first | (refine zbk rfl (decide_eq_true (by exact h0)) ?_) | (refine zbk rfl (by exact h0) ?_)
 refine zai <| oM rfl rfl <| oP (zaf rfl) rfl <| oP (zaa rfl ⟨_,_,_,Tryz.runUnderlying84,rfl,rfl,Tryz.sizeOf81,rfl⟩) rfl <| oV (zag rfl foc1 rfl Tryz.isAgg81) rfl <| oM rfl rfl <| oM rfl rfl <| oO <| ze0 (M:=mBas) (k:=n) (v:=p) rfl rfl rfl foc2 zl1 <| nT <| sR <| oM rfl rfl <| oA rfl rfl <| nT <| zaj <| zan (res1 Tryz.results20 rfl) ?_
 rw [if_pos h0]
 have hw9 := hW.addB (ov:=ov9) (p:=p) h0 hlen hz h1 h2 h3
 refine CSpec.close (c.push ov9 c.dl (setM c.bl n p) (hBas p dn) (bNew n z)) ?_ ?_ (Ent.trans (Ent.trans (t7_ (t5_ (t2_ (t2_ (t0_ (t1_ (t1_ eR))))))) (zvs (ov:=ov9) hW hw9)) (t1_ (t0_ eR)))
 · exact iv h0
 · exact ⟨ov9,rfl⟩
theorem zvu {W:World}  :
    CSpec Tryz.prog W 18 [] [] (fun x:Nat × Nat × Nat=>ptr x.1 0) (fun _=>True) (fun x F=>blk x.1 84 [.map (some x.2.1),.map (some x.2.2),.slice none 0 0,.int .i64 0,.slice none 0 0]::mpc mBas x.2.1 []::mpc mDev x.2.2 []::F) := by
 refine CSpec.of_body Tryz.func18 rfl Tryz.ntmps18 rfl fun F => ?_
 show CJ _ _ _ _ _ _ (F)
 refine sR <| oA rfl rfl <| nT <| sR <| oO <| zgi mBas rfl fun b1=>oO <| zgi mDev rfl fun b2=>oP (zbm rfl (zmd _ _)) rfl <| oO <| O_box rfl rfl rfl fun b3=>oA rfl rfl <| nT <| zaj <| zan (res1 Tryz.results18 rfl) <| CSpec.close ⟨b3,b1,b2⟩ ?_ ?_ (t0_ (t1_ (t0_ eR)))
 · rfl
 · trivial
end Go.Proofs
namespace Go.Proofs
namespace Md
section
variable {m:Md} {k:Nat} {n:ByteArray} {l:List api_Target} {t:api_Task}
theorem zn9 (h:MdBd m) (hc:m.cl < 4000) (hk:k < m.dv.length) {d':Dv} (hw:d'.wait.length=(m.at k).wait.length):MdBd (m.set k d').tick :=
  zdj (h.set (m' := m.set k d') hk rfl (by show _ + m.tks≤_ + m.tks; omega) h.tks h.told h.wr (Nat.le_refl _) h.cl) hc
theorem bd_cr (h:MdBd m) (hc:m.cl < 4000):MdBd (m.crS n).tick := by
  unfold crS addS
  split
  · exact h.push_tick hc rfl
  · exact zdj h hc
theorem bd_ld (h:MdBd m) (hc:m.cl < 4000):MdBd (m.ldS n l).tick := by
  unfold ldS
  cases hd:m.dev n with
  | none=>exact zdj h hc
  | some k =>
    show MdBd (Md.tick (if m.ldE n l=0 then m.set k { m.at k with new := l,hn := true } else m))
    split
    · exact zn9 h hc (zlk hd) rfl
    · exact zdj h hc
theorem bd_ul (h:MdBd m) (hc:m.cl < 4000):MdBd (m.ulS n).tick := by
  unfold ulS
  cases hd:m.dev n with
  | none=>exact zdj h hc
  | some k =>
    show MdBd (Md.tick (if (m.at k).hn then m.set k { m.at k with new := [],hn := false } else m))
    split
    · exact zn9 h hc (zlk hd) rfl
    · exact zdj h hc
theorem bd_su (h:MdBd m) (hc:m.cl < 4000):MdBd (m.suS n).tick := by
  unfold suS
  cases hd:m.dev n with
  | none=>exact zdj h hc
  | some k =>
    show MdBd (Md.tick (if m.suE n=0 then m.set k { m.at k with susp := true } else m))
    split
    · exact zn9 h hc (zlk hd) rfl
    · exact zdj h hc
theorem bd_rm (h:MdBd m) (hc:m.cl < 4000):MdBd (m.rmS n).tick := by
  unfold rmS
  cases hd:m.find n with
  | none=>exact zdj h hc
  | some k =>
    show MdBd (Md.tick (if m.rmE n=0 then m.set k { m.at k with gone := true } else m))
    split
    · exact zn9 h hc (find_lt0 hd) rfl
    · exact zdj h hc
theorem bd_an (h:MdBd m) (hc:m.cl < 4000):MdBd m.anS.tick := zdj (m:=m.anS) ⟨h.wl,h.tks,Nat.zero_le _,h.wr,h.len,h.cl⟩ hc
theorem bd_do (hO:MdOk m) (h:MdBd m) (hc:m.cl < 4000):MdBd (m.doS n t).tick := by
  have h1 := h.tks; have h2 := h.told; have h3 := h.wr; have h4 := h.len; have h5 := h.wl
  unfold doS
  split
  · exact zdj h hc
  · cases hf:m.find n with
    | none=>exact zdj h hc
    | some k =>
      dsimp only
      obtain ⟨g1,g2,_⟩ := List.findIdx?_eq_some_iff_getElem.1 hf
      have e:m.at k=m.dv[k] := by simp [Md.at,List.getD,g1]
      simp only [isN,Bool.and_eq_true,Bool.not_eq_true',decide_eq_true_eq] at g2
      rw [← e] at g2
      cases hw:m.wayk k t with
      | some w =>
        have hwl := (way_is hO _ _ _ _ g1 g2.1 hw).1
        have hs := zis m.dv w { m.at w with wait := (m.at w).wait ++ [⟨m.tks + 1,k,t⟩] } hwl
        have e2:(m.dv.getD w Dv.z).wait.length=(m.at w).wait.length := rfl
        rw [List.length_append,List.length_singleton] at hs
        show MdBd (Md.tick ({ m with tks := m.tks + 1 }.addW w ⟨m.tks + 1,k,t⟩))
        refine ⟨?_,by show m.tks + 1≤m.cl + 1; omega,Nat.le_trans h2 (by show _≤4000 * (m.cl + 1); omega),Nat.le_trans h3 (by show _≤4000 * (m.cl + 1); omega),?_,hc⟩
        · show ((m.dv.set w _).map fun d=>d.wait.length).sum≤m.tks + 1
          have e3:(m.dv.map fun d=>d.wait.length).sum=m.wsum := rfl
          have e4:(({ m with tks := m.tks + 1 } : Md).at w)=m.at w := rfl
          rw [e4]; omega
        · show (m.dv.set w _).length≤m.cl + 1 + 2
          rw [List.length_set]; omega
      | none =>
        have hK := carry_kept (m:=m) (m.dv.length + 1) k t
        have e1 := zkc hK.like.len hK.wait
        have e2 := hK.tks; have e3 := hK.told; have e4 := hK.cl; have e5 := hK.wr; have e6 := hK.like.len
        show MdBd (Md.tick (m.carryk k t).2)
        unfold carryk
        generalize (m.carry (m.dv.length + 1) k t).2=z at *
        exact ⟨by show z.wsum≤z.tks; omega,by show z.tks≤z.cl + 1; omega,by show z.told.length≤4000 * (z.cl + 1); rw [e3]; omega,by show z.wr≤4000 * (z.cl + 1); omega,by show z.dv.length≤z.cl + 1 + 2; omega,by show z.cl + 1≤4000; omega⟩
end
end Md
end Go.Proofs
set_option linter.unusedSimpArgs false
set_option maxRecDepth 20000
namespace Go.Proofs
open Go.VG
theorem CSpec.toT {W:World} {f:FuncId} {args:List Value} {b:Nat} {m m':Md} {v:Value} {G:List HP} (_hc:m.cl < 4000) (hm:MdOk m→MdBd m→MdBd m'.tick)
    (h:∀ c:MH,MdBd m→CSpec Tryz.prog W f args (blk b 84 (za3 c m)::MapR c m::G) (fun _:MH=>v) (fun _=>True) (fun c2 F=>blk b 84 (za3 c2 m')::MapR c2 m' :: (G ++ F))) :
    CSpec Tryz.prog W f args (MapP b m::G) (fun _:Unit=>v) (fun _=>True) (fun _ F=>MapP b m'.tick::(G ++ F)) := by
  intro F w hs
  obtain ⟨gg,hgg⟩ := hs.heap
  obtain ⟨c,h1⟩ := zi6 _ hgg
  obtain ⟨hb,h2⟩ := stars_pur.1 h1
  have hO:MdOk m := (zb4 (H:=blk b 84 (za3 c m)::MapR c m::(G ++ F)) foc1 _ h2).ok
  refine (h c hb F w ⟨hs.os,hs.tape,hs.output,gg,h2⟩).mono ?_
  rintro e w' ⟨c2,h3,h4,h5⟩
  exact ⟨(),h3,trivial,h5.imp (Ent.trans (Ent.take del1 Ent.refl) (Ent.trans zpl (Ent.trans (Ent.take del1 Ent.refl) (zgy (m:=m'.tick) (c:=c2) (hm hO hb)))))⟩
section
variable {W:World} {b:Nat} {m:Md} {n:ByteArray}
theorem zpq (hc:m.cl < 4000):CSpec Tryz.prog W 22 [ptr b 0,.string n] (MapP b m::[]) (fun _:Unit => .int .i64 (m.crE n)) (fun _=>True) (fun _ F=>MapP b (m.crS n).tick::([] ++ F)) :=
  CSpec.toT hc (fun hO h=>Md.bd_cr h hc) fun c hb=>by
    have g1 := hb.tks; have g2 := hb.told; have g3 := hb.wr; have g4 := hb.len; have g5 := hb.wl
    exact zxm (by omega)
theorem zsy {A:HP} {v:Sl3} {l:List api_Target} (hA:Reads A tyapi_Target v.v l) (hc:m.cl < 4000) (hl:l.length≤100000000):CSpec Tryz.prog W 28 [ptr b 0,.string n,v.v] (MapP b m::[A]) (fun _:Unit => .int .i64 (m.ldE n l)) (fun _=>True) (fun _ F=>MapP b (m.ldS n l).tick::([A] ++ F)) :=
  CSpec.toT hc (fun hO h=>Md.bd_ld h hc) fun c hb=>by
    have g1 := hb.tks; have g2 := hb.told; have g3 := hb.wr; have g4 := hb.len; have g5 := hb.wl
    exact c_Load hA hl
theorem zvv (hc:m.cl < 4000):CSpec Tryz.prog W 30 [ptr b 0,.string n] (MapP b m::[]) (fun _:Unit => .int .i64 (m.ulE n)) (fun _=>True) (fun _ F=>MapP b (m.ulS n).tick::([] ++ F)) :=
  CSpec.toT hc (fun hO h=>Md.bd_ul h hc) fun c hb=>by
    have g1 := hb.tks; have g2 := hb.told; have g3 := hb.wr; have g4 := hb.len; have g5 := hb.wl
    exact zxg
theorem zkd (hc:m.cl < 4000):CSpec Tryz.prog W 32 [ptr b 0,.string n] (MapP b m::[]) (fun _:Unit => .int .i64 (m.suE n)) (fun _=>True) (fun _ F=>MapP b (m.suS n).tick::([] ++ F)) :=
  CSpec.toT hc (fun hO h=>Md.bd_su h hc) fun c hb=>by
    have g1 := hb.tks; have g2 := hb.told; have g3 := hb.wr; have g4 := hb.len; have g5 := hb.wl
    exact zvh
theorem zll (hc:m.cl < 4000):CSpec Tryz.prog W 34 [ptr b 0,.string n] (MapP b m::[]) (fun _:Unit => .int .i64 (m.rsE n)) (fun _=>True) (fun _ F=>MapP b (m.rsS n).tick::([] ++ F)) :=
  CSpec.toT hc (fun hO h=>Md.bd_rs h hc) fun c hb=>by
    have g1 := hb.tks; have g2 := hb.told; have g3 := hb.wr; have g4 := hb.len; have g5 := hb.wl
    exact zxq (by omega) (by omega) (by omega)
theorem zvw (hc:m.cl < 4000):CSpec Tryz.prog W 24 [ptr b 0,.string n] (MapP b m::[]) (fun _:Unit => .int .i64 (m.rmE n)) (fun _=>True) (fun _ F=>MapP b (m.rmS n).tick::([] ++ F)) :=
  CSpec.toT hc (fun hO h=>Md.bd_rm h hc) fun c hb=>by
    have g1 := hb.tks; have g2 := hb.told; have g3 := hb.wr; have g4 := hb.len; have g5 := hb.wl
    exact zxp
theorem c_DoP {t:api_Task} (hc:m.cl < 4000) (hb2 : -9223372036854775808≤t.At∧t.At≤9223372036854775807):CSpec Tryz.prog W 37 [ptr b 0,.string n,.agg #[.int .i64 t.Kind,.int .i64 t.At,.int .u64 (t.Value.toNat:Int)]] (MapP b m::[]) (fun _:Unit => .tuple #[.agg #[.bool (m.doA n t).Done,.int .i64 (m.doA n t).Ticket,.int .u64 ((m.doA n t).Value.toNat:Int),.int .i64 (m.doA n t).Error],.int .i64 (m.doE n t)]) (fun _=>True) (fun _ F=>MapP b (m.doS n t).tick::([] ++ F)) :=
  CSpec.toT hc (fun hO h=>Md.bd_do hO h hc) fun c hb=>by
    have g1 := hb.tks; have g2 := hb.told; have g3 := hb.wr; have g4 := hb.len; have g5 := hb.wl
    exact c_Do (by omega) (by omega) (fun i=>by have := m.wait_le i; omega) hb2
end
theorem zoa {W:World} {b:Nat} {m:Md} (hc:m.cl < 4000):CSpec Tryz.prog W 13 [ptr b 0] [MapP b m] (fun x:Sl3=>x.v) (fun _=>True) (fun x F=>sl tyapi_Answer x.v m.told::MapP b m.anS.tick::F) := by
  intro F w hs
  obtain ⟨gg,hgg⟩ := hs.heap
  obtain ⟨c,h1⟩ := zi6 _ hgg
  obtain ⟨hb,h2⟩ := stars_pur.1 h1
  refine (zvg (b:=b) (c:=c) (m:=m) F w ⟨hs.os,hs.tape,hs.output,gg,h2⟩).mono ?_
  rintro e w' ⟨_,h3,h4,h5⟩
  exact ⟨c.tv,h3,trivial,h5.imp (Ent.trans (Ent.take del2 Ent.refl) (Ent.trans zpl (Ent.trans (Ent.take del2 Ent.refl) (Ent.trans (zgy (m:=m.anS.tick) (c := { c with tv := s3z }) (Md.bd_an hb hc)) (Ent.take del1 Ent.refl)))))⟩
end Go.Proofs
set_option linter.unusedSimpArgs false
set_option maxRecDepth 20000
namespace Go.Proofs
open Go.VG
theorem zo1 (v0:ByteArray):zbt Tryz.prog 59 1 [(0,.string v0)] 9 [.string v0] := fun w=>by kernel_rfl
structure RD where
  ba:Sl3
  lv:Sl3
  nw:Sl3
  wt:Sl3
abbrev rd0:RD := ⟨s3z,s3z,s3z,s3z⟩
abbrev tyWt:Ty Wt := { T := 94,sz := 5,enc := fun x=>[.int .i64 (x.tk:Int),.int .i64 (x.gv:Int),.int .i64 x.t.Kind,.int .i64 x.t.At,.int .u64 (x.t.Value.toNat:Int)],dflt := Wt.z,len := fun _=>rfl,one := fun _=>rfl,pos := by decide }
theorem zjq:ElemOk Tryz.prog tyWt 40 := ⟨Tryz.t94,.agg #[.int .i64 0,.int .i64 0,.int .i64 0,.int .i64 0,.int .u64 0],by kernel_rfl,rfl,rfl,rfl,rfl⟩
abbrev tyDv:Ty (RD × Dv) := { T := 91,sz := 10,enc := fun x=>[.bool x.2.gone,.bool x.2.isB,.string x.2.name,x.1.ba.v,x.1.lv.v,x.1.nw.v,.bool x.2.hl,.bool x.2.hn,.bool x.2.susp,x.1.wt.v],dflt := (rd0,Dv.z),len := fun _=>rfl,one := fun _=>rfl,pos := by decide }
theorem zza:ElemOk Tryz.prog tyDv 128 := ⟨Tryz.t91,.agg #[.bool false,.bool false,.string ByteArray.empty,.slice none 0 0,.slice none 0 0,.slice none 0 0,.bool false,.bool false,.bool false,.slice none 0 0],by kernel_rfl,rfl,rfl,rfl,rfl⟩
structure RH where
  dv:Sl3
  tv:Sl3
  l:List (RD × Dv)
def RowC (x:RD × Dv):HP := star [sl tyU x.1.ba.v x.2.base,sl tyapi_Target x.1.lv.v x.2.live,sl tyapi_Target x.1.nw.v x.2.new,sl tyWt x.1.wt.v x.2.wait]
structure RefWF (c:RH) (m:Md):Prop where
  dv:c.l.map Prod.snd=m.dv
  ok:MdOk m
  big:MdBig m
def RefR (c:RH) (m:Md):HP := star [pur (RefWF c m),sl tyDv c.dv.v c.l,sl tyapi_Answer c.tv.v m.told,Go.VG.Own RowC c.l]
abbrev zbi (c:RH) (m:Md):List Value := [c.dv.v,.int .i64 (m.tks:Int),c.tv.v]
def RefP (b:Nat) (m:Md):HP := ex fun c:RH=>star [pur (MdBd m),blk b 72 (zbi c m),RefR c m]
section
variable {c:RH} {m:Md} {k:Nat} {R:List HP}
theorem zci {H:List HP} {C:HP→List HP} (hf:Foc H (RefR c m) C):∀ h,stars H h→RefWF c m := fun h hh=>by
  obtain ⟨F,hp,_⟩ := hf.focus
  exact (stars_pur.1 (stars_star.1 (zbn hp _ hh))).1
theorem zlm:Ent (RefR c m::R) (sl tyDv c.dv.v c.l::sl tyapi_Answer c.tv.v m.told::Go.VG.Own RowC c.l::R) := fun _h hh=>(stars_pur.1 (stars_star.1 hh)).2
theorem zih (h:RefWF c m):Ent (sl tyDv c.dv.v c.l::sl tyapi_Answer c.tv.v m.told::Go.VG.Own RowC c.l::R) (RefR c m::R) := fun _ hh=>stars_star.2 (stars_pur.2 ⟨h,hh⟩)
theorem rdDv:Reads (RefR c m) tyDv c.dv.v c.l := zd2 zlm
theorem RefWF.len (h:RefWF c m):c.l.length=m.dv.length := by rw [← h.dv]; simp
theorem RefWF.at (h:RefWF c m) (k:Nat):(c.l.getD k tyDv.dflt).2=m.at k := by
  have h2 := zqe (fun p:RD × Dv=>p.2) c.l k (rd0,Dv.z)
  have h3:(c.l.map fun p:RD × Dv=>p.2).getD k Dv.z=m.at k := by rw [show (c.l.map fun p:RD × Dv=>p.2)=m.dv from h.dv]; rfl
  exact h2.symm.trans h3
theorem zvx {dv:Sl3} {h:RD} {d:Dv} (hW:RefWF c m) (ok:MdOk (m.push d)) (big:MdBig (m.push d)):Ent (RowC (h,d)::Go.VG.Own RowC c.l::sl tyDv dv.v (c.l ++ [(h,d)])::sl tyapi_Answer c.tv.v m.told::R) (RefR { c with dv := dv,l := c.l ++ [(h,d)] } (m.push d)::R) := fun g hh=>by
  have hw:RefWF { c with dv := dv,l := c.l ++ [(h,d)] } (m.push d) := ⟨by show (c.l ++ [(h,d)]).map Prod.snd=m.dv ++ [d]; rw [List.map_append,hW.dv]; rfl,ok,big⟩
  have h1 := zmu RowC (h,d) g hh
  exact zih (c := { c with dv := dv,l := c.l ++ [(h,d)] }) hw g ((Ent.take del1 (Ent.take del1 (Ent.take del0 Ent.refl))) g h1)
end
namespace Md
def findI (m:Md) (n:ByteArray):Int := match m.find n with | some k=>(k:Int) | none => -1
section
variable {m:Md} {n:ByteArray} {i:Nat}
theorem findI_at (hi:i < m.dv.length) (h:isN (m.at i) n=true) (hno:∀ j,j < i→isN (m.at j) n=false):m.findI n=(i:Int) := by
  have:m.find n=some i := List.findIdx?_eq_some_iff_getElem.2 ⟨hi,by rw [show m.dv[i]=m.at i by simp [Md.at,List.getD,hi]]; exact h,fun j hj=>by
    have := hno j hj
    rw [show m.dv[j]=m.at j by simp [Md.at,List.getD,show j < m.dv.length by omega],this]; decide⟩
  unfold findI; rw [this]
theorem findI_no (hno:∀ j,j < m.dv.length→isN (m.at j) n=false):m.findI n = -1 := by
  have:m.find n=none := List.findIdx?_eq_none_iff.2 fun d hd=>by
    obtain ⟨j,hj,rfl⟩ := List.getElem_of_mem hd
    have := hno j hj
    rwa [show m.dv[j]=m.at j by simp [Md.at,List.getD,hj]]
  unfold findI; rw [this]
theorem findI_some:(0≤m.findI n)↔(m.find n).isSome=true := by
  unfold findI
  cases m.find n with
  | none=>simp
  | some k=>simp
def nmT (m:Md) (i:Nat):List ByteArray := ((m.dv.take i).filter fun d => !d.gone).map (·.name)
theorem nmT_step (hi:i < m.dv.length):m.nmT (i + 1)=m.nmT i ++ (if (m.at i).gone then [] else [(m.at i).name]) := by
  unfold nmT
  have e:m.dv.take (i + 1)=m.dv.take i ++ [m.at i] := by rw [List.take_succ_eq_append_getElem hi]; simp [Md.at,List.getD,hi]
  rw [e,List.filter_append,List.map_append]
  cases h:(m.at i).gone <;> simp [h]
theorem nmT_len (i:Nat):(m.nmT i).length≤i := by
  unfold nmT
  rw [List.length_map]
  exact Nat.le_trans (List.length_filter_le _ _) (by rw [List.length_take]; omega)
end
end Md
theorem zew {W:World} {b:Nat} {c:RH} {m:Md} {n:ByteArray} :
    CSpec Tryz.prog W 39 [ptr b 0,.string n] [blk b 72 (zbi c m),RefR c m] (fun _:Unit => .int .i64 (m.findI n)) (fun _=>True) (fun _ F=>blk b 72 (zbi c m)::RefR c m::F) := by
 refine CSpec.of_body Tryz.func39 rfl Tryz.ntmps39 rfl fun F => ?_
 show CJ _ _ _ _ _ _ (_::_::F)
 refine zba (zci foc1) fun hW => ?_
 have hO := hW.ok
 have hln := hW.big.len
 have hll := hW.len
 refine sR <| oA rfl rfl <| nT <| zad <| sR <| oA rfl rfl <| nT <| zas <| zbe (X:=Nat) [4,5,6,7,8,9,10,11,12,13,14,15,16,17,18,19,20,21,22,23,24,25,26,27,28,29,30,31,32,33,34,35,36] (fun i  => ([(5,.int .i64 (i:Nat))]:Slots)) (fun i R=>R) (fun i  => i≤m.dv.length ∧ ∀ j,j < i→Md.isN (m.at j) n=false) (fun i  => m.dv.length - i) (0) ?_ ?_ (t0_ (t0_ eR)) ?_
 · exact ⟨Nat.zero_le _,fun j h=>by omega⟩
 · exact ⟨rfl,True.intro⟩
 ·
  intro i hpf
  obtain ⟨hi,hno⟩ := hpf
  show CJ _ _ _ _ _ (([(5,.int .i64 (i:Nat))]:Slots) ++ forget _ _) (_)
  have hat := hW.at i
  refine zad <| sR <| oM rfl rfl <| oM rfl rfl <| oP (zaf rfl) rfl <| oP (zaa rfl ⟨_,_,_,Tryz.runUnderlying72,rfl,rfl,Tryz.sizeOf70,rfl⟩) rfl <| oV (zag rfl foc0 rfl Tryz.isAgg70) rfl <| oV (V_len rfl foc1 rdDv Tryz.runUnderlying70) rfl <| oP (P_lss rfl rfl) rfl <| nT ?_
  first | (refine zao rfl (fun hg1 => ?_) (fun hg1 => ?_)) | (refine zap rfl (fun hg1 => ?_) (fun hg1 => ?_)) | (refine zar rfl (fun hg1 => ?_) (fun hg1 => ?_))
  ·
   refine kT <| zad <| zas <| sR <| oM rfl rfl <| oP (zaf rfl) rfl <| oP (zaa rfl ⟨_,_,_,Tryz.runUnderlying72,rfl,rfl,Tryz.sizeOf70,rfl⟩) rfl <| oV (zag rfl foc0 rfl Tryz.isAgg70) rfl <| oM rfl rfl ?_
   first | (refine RJ_op rfl (OJ_V (zal rfl rfl rfl (by omega) foc1 rdDv Tryz.runUnderlying70 Tryz.sizeOf91) rfl ?_)) | (refine RJ_op rfl (OJ_V (zal rfl rfl (Int.toNat_of_nonneg (by omega)).symm (by omega) foc1 rdDv Tryz.runUnderlying70 Tryz.sizeOf91) rfl ?_))
   refine oP (zay rfl ⟨_,_,_,Tryz.runUnderlying91,rfl,rfl,Tryz.sizeOf4,rfl⟩) rfl <| oV (zaz rfl rfl (by omega) foc1 rdDv rfl rfl Tryz.isAgg4) rfl <| oP (P_not rfl) rfl <| oM rfl rfl ?_
   first | (refine zbp 24 rfl (fun hg2B hg2 => ?_) (fun hg2B hg2 => ?_)) | (refine zbq 24 rfl (fun hg2B hg2 => ?_) (fun hg2B hg2 => ?_)) | (refine zbr 24 rfl (fun hg2B => ?_) (fun hg2B => ?_))
   ·
    refine gP (zab rfl rfl rfl hg2B) (zah rfl) rfl <| gP (zab rfl rfl rfl hg2B) (zaf rfl) rfl <| gP (zab rfl rfl rfl hg2B) (zaa rfl ⟨_,_,_,Tryz.runUnderlying72,rfl,rfl,Tryz.sizeOf70,rfl⟩) rfl <| gV (zab rfl rfl rfl hg2B) (zag rfl foc0 rfl Tryz.isAgg70) rfl <| gP (zab rfl rfl rfl hg2B) (zah rfl) rfl ?_
    first | (refine RJ_gy (zab rfl rfl rfl hg2B) (OJ_V (zal rfl rfl rfl (by omega) foc1 rdDv Tryz.runUnderlying70 Tryz.sizeOf91) rfl ?_)) | (refine RJ_gy (zab rfl rfl rfl hg2B) (OJ_V (zal rfl rfl (Int.toNat_of_nonneg (by omega)).symm (by omega) foc1 rdDv Tryz.runUnderlying70 Tryz.sizeOf91) rfl ?_))
    refine gP (zab rfl rfl rfl hg2B) (zay rfl ⟨_,_,_,Tryz.runUnderlying91,rfl,rfl,Tryz.sizeOf9,rfl⟩) rfl <| gV (zab rfl rfl rfl hg2B) (zaz rfl rfl (by omega) foc1 rdDv rfl rfl Tryz.isAgg9) rfl <| gP (zab rfl rfl rfl hg2B) (zah rfl) rfl <| gP (zab rfl rfl rfl hg2B) (zcj rfl rfl Tryz.underlying9) rfl <| oP (za2 rfl hg2B rfl) rfl <| nT ?_
    first | (refine zao rfl (fun hg3 => ?_) (fun hg3 => ?_)) | (refine zap rfl (fun hg3 => ?_) (fun hg3 => ?_)) | (refine zar rfl (fun hg3 => ?_) (fun hg3 => ?_))
    ·
     refine sR <| oM rfl rfl <| oA rfl rfl <| nT <| zaj <| zam <| zae <| zbb <| zam <| zae <| zan (res1 Tryz.results39 rfl) <| CSpec.close () ?_ ?_ (t0_ (t0_ eR))
     · exact iv (Md.findI_at (by omega) (by unfold Md.isN; rw [← hat]; simp_all) hno).symm
     · trivial
    ·
     refine za8 <| zak <| zat <| zai <| oM rfl rfl <| oP (P_add rfl rfl (by omega)) rfl <| oA rfl rfl <| za0 <| za6 (i + 1) (by first | omega | (simp only []; omega)) ?_ (by repeat (first | exact Kp.base | exact Kp.self | refine Kp.cons rfl ?_ | refine Kp.forget rfl ?_)) ?_ (t0_ (t0_ eR))
     ·
      refine ⟨by omega,fun j hj => ?_⟩
      rcases Nat.lt_or_ge j i with h | h
      · exact hno j h
      · obtain rfl:j=i := by omega
        unfold Md.isN; rw [← hat]; simp_all
     · exact ⟨rfl,True.intro⟩
   ·
    refine RJ_gn (GY_no rfl rfl rfl hg2B) rfl rfl <| RJ_gn (GY_no rfl rfl rfl hg2B) rfl rfl <| RJ_gn (GY_no rfl rfl rfl hg2B) rfl rfl <| RJ_gn (GY_no rfl rfl rfl hg2B) rfl rfl <| RJ_gn (GY_no rfl rfl rfl hg2B) rfl rfl <| RJ_gn (GY_no rfl rfl rfl hg2B) rfl rfl <| RJ_gn (GY_no rfl rfl rfl hg2B) rfl rfl <| RJ_gn (GY_no rfl rfl rfl hg2B) rfl rfl <| RJ_gn (GY_no rfl rfl rfl hg2B) rfl rfl <| RJ_gn (GY_no rfl rfl rfl hg2B) rfl rfl <| oP (za5 rfl hg2B rfl) rfl <| nT <| zbf rfl rfl <| za8 <| zak <| zat <| zai <| oM rfl rfl <| oP (P_add rfl rfl (by omega)) rfl <| oA rfl rfl <| za0 <| za6 (i + 1) (by first | omega | (simp only []; omega)) ?_ (by repeat (first | exact Kp.base | exact Kp.self | refine Kp.cons rfl ?_ | refine Kp.forget rfl ?_)) ?_ (t0_ (t0_ eR))
    ·
     refine ⟨by omega,fun j hj => ?_⟩
     rcases Nat.lt_or_ge j i with h | h
     · exact hno j h
     · obtain rfl:j=i := by omega
       unfold Md.isN; rw [← hat]; simp_all
    · exact ⟨rfl,True.intro⟩
  ·
   refine zbg <| zaw <| zav <| zau <| zat <| sR <| oA rfl rfl <| nT <| zaj <| zan (res1 Tryz.results39 rfl) <| CSpec.close () ?_ ?_ (t0_ (t0_ eR))
   · exact iv (Md.findI_no fun j hj=>hno j (by omega)).symm
   · trivial
theorem zre {W:World} {b:Nat} {c:RH} {m:Md} {n:ByteArray} :
    CSpec Tryz.prog W 66 [ptr b 0,.string n] [blk b 72 (zbi c m),RefR c m] (fun _:Unit => .int .i64 (m.freshE n)) (fun _=>True) (fun _ F=>blk b 72 (zbi c m)::RefR c m::F) := by
 refine CSpec.of_body Tryz.func66 rfl Tryz.ntmps66 rfl fun F => ?_
 show CJ _ _ _ _ _ _ (_::_::F)
 refine zba (zci foc1) fun hW => ?_
 have hO := hW.ok
 have hln := hW.big.len
 have hll := hW.len
 refine sR <| oA rfl rfl <| nT <| zad <| sR <| oM rfl rfl <| oP (znn rfl Tryz.runUnderlying9) rfl <| oP (P_lss rfl rfl) rfl <| oM rfl rfl ?_
 first | (refine zbp 8 rfl (fun hg1B hg1 => ?_) (fun hg1B hg1 => ?_)) | (refine zbq 8 rfl (fun hg1B hg1 => ?_) (fun hg1B hg1 => ?_)) | (refine zbr 8 rfl (fun hg1B => ?_) (fun hg1B => ?_))
 ·
  refine RJ_gn (GY_no rfl rfl rfl hg1B) rfl rfl <| RJ_gn (GY_no rfl rfl rfl hg1B) rfl rfl <| RJ_gn (GY_no rfl rfl rfl hg1B) rfl rfl <| oP (za2 rfl hg1B rfl) rfl <| nT <| zbk rfl rfl <| sR <| oA rfl rfl <| nT <| zaj <| zae <| zan (res1 Tryz.results66 rfl) <| CSpec.close () ?_ ?_ (t0_ (t0_ eR))
  · exact iv (by unfold Md.freshE; first | rw [if_pos (show n.size < 1∨40 < n.size by omega)] | rw [if_neg (show ¬ (n.size < 1∨40 < n.size) by omega),if_pos (Md.findI_some.1 (by assumption))] | rw [if_neg (show ¬ (n.size < 1∨40 < n.size) by omega),if_neg (fun h=>absurd (Md.findI_some.2 h) (by assumption))])
  · trivial
 ·
  refine gP (zab rfl rfl rfl hg1B) (zah rfl) rfl <| gP (zab rfl rfl rfl hg1B) (znn rfl Tryz.runUnderlying9) rfl <| gP (zab rfl rfl rfl hg1B) (P_gtr rfl rfl) rfl <| oP (za5 rfl hg1B rfl) rfl <| nT ?_
  first | (refine zao rfl (fun hg2 => ?_) (fun hg2 => ?_)) | (refine zap rfl (fun hg2 => ?_) (fun hg2 => ?_)) | (refine zar rfl (fun hg2 => ?_) (fun hg2 => ?_))
  ·
   refine sR <| oA rfl rfl <| nT <| zaj <| zae <| zan (res1 Tryz.results66 rfl) <| CSpec.close () ?_ ?_ (t0_ (t0_ eR))
   · exact iv (by unfold Md.freshE; first | rw [if_pos (show n.size < 1∨40 < n.size by omega)] | rw [if_neg (show ¬ (n.size < 1∨40 < n.size) by omega),if_pos (Md.findI_some.1 (by assumption))] | rw [if_neg (show ¬ (n.size < 1∨40 < n.size) by omega),if_neg (fun h=>absurd (Md.findI_some.2 h) (by assumption))])
   · trivial
  ·
   refine kT <| zad <| sR <| oM rfl rfl <| oM rfl rfl <| oO <| zaq (zew) rfl Tryz.call39 (Dels.cons del0 (Dels.cons del0 Dels.nil)) rfl fun _ hc1=>oP (P_geq rfl rfl) rfl <| nT ?_
   first | (refine zao rfl (fun hg3 => ?_) (fun hg3 => ?_)) | (refine zap rfl (fun hg3 => ?_) (fun hg3 => ?_)) | (refine zar rfl (fun hg3 => ?_) (fun hg3 => ?_))
   ·
    refine sR <| oA rfl rfl <| nT <| zaj <| zae <| zan (res1 Tryz.results66 rfl) <| CSpec.close () ?_ ?_ (t0_ (t0_ eR))
    · exact iv (by unfold Md.freshE; first | rw [if_pos (show n.size < 1∨40 < n.size by omega)] | rw [if_neg (show ¬ (n.size < 1∨40 < n.size) by omega),if_pos (Md.findI_some.1 (by assumption))] | rw [if_neg (show ¬ (n.size < 1∨40 < n.size) by omega),if_neg (fun h=>absurd (Md.findI_some.2 h) (by assumption))])
    · trivial
   ·
    refine kT <| sR <| oA rfl rfl <| nT <| zaj <| zan (res1 Tryz.results66 rfl) <| CSpec.close () ?_ ?_ (t0_ (t0_ eR))
    · exact iv (by unfold Md.freshE; first | rw [if_pos (show n.size < 1∨40 < n.size by omega)] | rw [if_neg (show ¬ (n.size < 1∨40 < n.size) by omega),if_pos (Md.findI_some.1 (by assumption))] | rw [if_neg (show ¬ (n.size < 1∨40 < n.size) by omega),if_neg (fun h=>absurd (Md.findI_some.2 h) (by assumption))])
    · trivial
theorem zrf {W:World} {b:Nat} {c:RH} {m:Md} :
    CSpec Tryz.prog W 43 [ptr b 0] [blk b 72 (zbi c m),RefR c m] (fun x:Sl3=>x.v) (fun _=>True) (fun x F=>sl tyS x.v m.names::blk b 72 (zbi c m)::RefR c m::F) := by
 refine CSpec.of_body Tryz.func43 rfl Tryz.ntmps43 rfl fun F => ?_
 show CJ _ _ _ _ _ _ (_::_::F)
 refine zba (zci foc1) fun hW => ?_
 have hO := hW.ok
 have hln := hW.big.len
 have hll := hW.len
 refine sR <| oA rfl rfl <| nT <| sR <| oA rfl rfl <| nT <| zad <| sR <| oA rfl rfl <| nT <| zas <| zbd (fun h hh=>zb2 (t:=tyS) h hh) <| zbe (X:=Nat × Sl3) [3,4,5,6,7,8,9,10,11,12,13,14,15,16,17,18,19,20,21,22,23,24,25,26,27,28,29,30,31,32,33] (fun ⟨i,rv⟩  => ([(4,.int .i64 (i:Nat)),(3,rv.v)]:Slots)) (fun ⟨i,rv⟩ R=>sl tyS rv.v (m.nmT i)::R) (fun ⟨i,rv⟩  => i≤m.dv.length) (fun ⟨i,rv⟩  => m.dv.length - i) ⟨0,⟨none,0,0⟩⟩ ?_ ?_ (t0_ (t0_ (t0_ eR))) ?_
 · exact Nat.zero_le _
 · exact ⟨rfl,rfl,True.intro⟩
 ·
  rintro ⟨i,rv⟩ hi
  show CJ _ _ _ _ _ (([(4,.int .i64 (i:Nat)),(3,rv.v)]:Slots) ++ forget _ _) (sl tyS rv.v (m.nmT i)::_)
  have hat := hW.at i
  have hnl := Md.nmT_len (m:=m) i
  refine zad <| sR <| oM rfl rfl <| oM rfl rfl <| oP (zaf rfl) rfl <| oP (zaa rfl ⟨_,_,_,Tryz.runUnderlying72,rfl,rfl,Tryz.sizeOf70,rfl⟩) rfl <| oV (zag rfl foc1 rfl Tryz.isAgg70) rfl <| oV (V_len rfl foc2 rdDv Tryz.runUnderlying70) rfl <| oP (P_lss rfl rfl) rfl <| nT ?_
  first | (refine zao rfl (fun hg1 => ?_) (fun hg1 => ?_)) | (refine zap rfl (fun hg1 => ?_) (fun hg1 => ?_)) | (refine zar rfl (fun hg1 => ?_) (fun hg1 => ?_))
  ·
   refine kT <| zad <| zas <| sR <| oM rfl rfl <| oP (zaf rfl) rfl <| oP (zaa rfl ⟨_,_,_,Tryz.runUnderlying72,rfl,rfl,Tryz.sizeOf70,rfl⟩) rfl <| oV (zag rfl foc1 rfl Tryz.isAgg70) rfl <| oM rfl rfl ?_
   first | (refine RJ_op rfl (OJ_V (zal rfl rfl rfl (by omega) foc2 rdDv Tryz.runUnderlying70 Tryz.sizeOf91) rfl ?_)) | (refine RJ_op rfl (OJ_V (zal rfl rfl (Int.toNat_of_nonneg (by omega)).symm (by omega) foc2 rdDv Tryz.runUnderlying70 Tryz.sizeOf91) rfl ?_))
   refine oP (zay rfl ⟨_,_,_,Tryz.runUnderlying91,rfl,rfl,Tryz.sizeOf4,rfl⟩) rfl <| oV (zaz rfl rfl (by omega) foc2 rdDv rfl rfl Tryz.isAgg4) rfl <| oP (P_not rfl) rfl <| nT ?_
   first | (refine zao rfl (fun hg2 => ?_) (fun hg2 => ?_)) | (refine zap rfl (fun hg2 => ?_) (fun hg2 => ?_)) | (refine zar rfl (fun hg2 => ?_) (fun hg2 => ?_))
   ·
    refine zai <| oM rfl rfl <| oM rfl rfl <| oP (zaf rfl) rfl <| oP (zaa rfl ⟨_,_,_,Tryz.runUnderlying72,rfl,rfl,Tryz.sizeOf70,rfl⟩) rfl <| oV (zag rfl foc1 rfl Tryz.isAgg70) rfl <| oM rfl rfl ?_
    first | (refine RJ_op rfl (OJ_V (zal rfl rfl rfl (by omega) foc2 rdDv Tryz.runUnderlying70 Tryz.sizeOf91) rfl ?_)) | (refine RJ_op rfl (OJ_V (zal rfl rfl (Int.toNat_of_nonneg (by omega)).symm (by omega) foc2 rdDv Tryz.runUnderlying70 Tryz.sizeOf91) rfl ?_))
    refine oP (zay rfl ⟨_,_,_,Tryz.runUnderlying91,rfl,rfl,Tryz.sizeOf9,rfl⟩) rfl <| oV (zaz rfl rfl (by omega) foc2 rdDv rfl rfl Tryz.isAgg9) rfl <| oO <| za7 rfl (zo1 _) rfl fun b1=>oO <| zbv (t:=tyS) (bytes:=16) rfl rfl del1 foc0 (Reads.lit (t:=tyS) (ys:=[(c.l.getD i tyDv.dflt).2.name]) rfl rfl (by decide) (by decide) rfl) Tryz.underlying59 zjj (by simp only [List.length_append,List.length_cons,List.length_nil,maxLen] at *; omega) (by simp only [List.length_append,List.length_cons,List.length_nil,maxLen] at *; omega) rfl fun p2 c3=>oA rfl rfl <| za0 <| zak <| zat <| zai <| oM rfl rfl <| oP (P_add rfl rfl (by omega)) rfl <| oA rfl rfl <| za0 <| za6 ⟨i + 1,⟨p2,_,c3⟩⟩ (by show m.dv.length - (i + 1) < m.dv.length - i; omega) ?_ (by repeat (first | exact Kp.base | exact Kp.self | refine Kp.cons rfl ?_ | refine Kp.forget rfl ?_)) ?_ (Ent.takeC del0 (congrArg (sl tyS _) (by rw [Md.nmT_step (by omega), ← hat,if_neg (by simp_all)])) (t1_ (t1_ (eD eR))))
    · omega
    · exact ⟨rfl,rfl,True.intro⟩
   ·
    refine za8 <| zak <| zat <| zai <| oM rfl rfl <| oP (P_add rfl rfl (by omega)) rfl <| oA rfl rfl <| za0 <| za6 ⟨i + 1,rv⟩ (by show m.dv.length - (i + 1) < m.dv.length - i; omega) ?_ (by repeat (first | exact Kp.base | exact Kp.self | refine Kp.cons rfl ?_ | refine Kp.forget rfl ?_)) ?_ (Ent.takeC del0 (congrArg (sl tyS _) (by rw [Md.nmT_step (by omega), ← hat,if_pos (by simp_all),List.append_nil])) (t0_ (t0_ eR)))
    · omega
    · exact ⟨rfl,rfl,True.intro⟩
  ·
   refine zbg <| zaw <| zav <| zau <| zat <| sR <| oM rfl rfl <| oA rfl rfl <| nT <| zaj <| zan (res1 Tryz.results43 rfl) ?_
   obtain rfl:i=m.dv.length := by omega
   refine CSpec.close rv ?_ ?_ (Ent.takeC del0 (congrArg (sl tyS _) (by unfold Md.nmT Md.names; rw [List.take_length])) (t0_ (t0_ eR)))
   · rfl
   · trivial
end Go.Proofs
set_option linter.unusedSimpArgs false
set_option maxRecDepth 20000
namespace Go.Proofs
open Go.VG
theorem zo2 (v0:Bool) (v1:Bool) (v2:ByteArray) (v3:(Option Addr)) (v4:Nat) (v5:Nat) (v6:(Option Addr)) (v7:Nat) (v8:Nat) (v9:(Option Addr)) (v10:Nat) (v11:Nat) (v12:Bool) (v13:Bool) (v14:Bool) (v15:(Option Addr)) (v16:Nat) (v17:Nat):zbt Tryz.prog 70 1 [(0,.agg #[.bool v0,.bool v1,.string v2,.slice v3 v4 v5,.slice v6 v7 v8,.slice v9 v10 v11,.bool v12,.bool v13,.bool v14,.slice v15 v16 v17])] 91 [.bool v0,.bool v1,.string v2,.slice v3 v4 v5,.slice v6 v7 v8,.slice v9 v10 v11,.bool v12,.bool v13,.bool v14,.slice v15 v16 v17] := fun w=>by kernel_rfl
theorem zme (v0:Bool) (v1:ByteArray) (v2:(Option Addr)) (v3:Nat) (v4:Nat):∀ w,(Instr.build 91 (#[(1,.bool v0),(2,.string v1),(3,.slice v2 v3 v4)]:Array (Nat × Value))).run Tryz.prog w = .ok (.agg #[.bool false,.bool v0,.string v1,.slice v2 v3 v4,.slice none 0 0,.slice none 0 0,.bool false,.bool false,.bool false,.slice none 0 0]) w := fun w=>by kernel_rfl
theorem zp2 (v0:ByteArray):∀ w,(Instr.build 91 (#[(2,.string v0)]:Array (Nat × Value))).run Tryz.prog w = .ok (.agg #[.bool false,.bool false,.string v0,.slice none 0 0,.slice none 0 0,.slice none 0 0,.bool false,.bool false,.bool false,.slice none 0 0]) w := fun w=>by kernel_rfl
section
variable {m:Md} {d:Dv} {n:ByteArray} {z:Nat}
theorem zsz (h:m.addE d.name≠0):m.addS d=m := if_neg h
theorem zzb (h:m.addE d.name=0):m.addS d=m.push d := if_pos h
theorem zxs (hO:MdOk m) (hB:MdBig m) (hl:m.dv.length + 1≤10000) (h:m.addE n=0):MdOk (m.push (dNew n))∧MdBig (m.push (dNew n)) := by
  obtain ⟨_,hf,hn,_⟩ := cr_ok h
  exact ⟨hO.push (d:=dNew n) rfl hn hf rfl rfl rfl rfl rfl rfl (Nat.zero_le _),hB.push (d:=dNew n) hl rfl⟩
theorem zxt (hO:MdOk m) (hB:MdBig m) (hl:m.dv.length + 1≤10000) (hz:z≤65536) (h:m.addE n=0):MdOk (m.push (bNew n z))∧MdBig (m.push (bNew n z)) := by
  obtain ⟨_,hf,hn,_⟩ := cr_ok h
  exact ⟨hO.push (d:=bNew n z) rfl hn hf rfl rfl rfl rfl rfl rfl (by simp; exact hz),hB.push (d:=bNew n z) hl rfl⟩
theorem zxu {R:List HP} : Ent R (RowC (rd0,dNew n)::R) := fun g hh=>stars_star.2 (zb2 (t:=tyU) g (zb2 (t:=tyapi_Target) g (zb2 (t:=tyapi_Target) g (zb2 (t:=tyWt) g hh))))
theorem zxv {v:Sl3} {R:List HP} : Ent (sl tyU v.v (List.replicate z 0)::R) (RowC (⟨v,s3z,s3z,s3z⟩,bNew n z)::R) := fun g hh=>by
  obtain ⟨a1,a2,d1,e1,p1,q1⟩ := hh
  exact stars_star.2 ⟨a1,a2,d1,e1,p1,zb2 (t:=tyapi_Target) _ (zb2 (t:=tyapi_Target) _ (zb2 (t:=tyWt) _ q1))⟩
end
theorem zvy {W:World} {b:Nat} {c:RH} {m:Md} {h:RD} {d:Dv} (hok:m.addE d.name=0→MdOk (m.push d)∧MdBig (m.push d)) :
    CSpec Tryz.prog W 55 [ptr b 0,.agg #[.bool d.gone,.bool d.isB,.string d.name,h.ba.v,h.lv.v,h.nw.v,.bool d.hl,.bool d.hn,.bool d.susp,h.wt.v]] [RowC (h,d),blk b 72 (zbi c m),RefR c m] (fun _:RH => .int .i64 (m.addE d.name)) (fun _=>True) (fun c2 F=>blk b 72 (zbi c2 (m.addS d))::RefR c2 (m.addS d)::F) := by
 refine CSpec.of_body Tryz.func55 rfl Tryz.ntmps55 rfl fun F => ?_
 show CJ _ _ _ _ _ _ (_::_::_::F)
 refine zba (zci foc2) fun hW => ?_
 have hO := hW.ok
 have hln := hW.big.len
 have hll := hW.len
 have hns := Md.names_len (m:=m)
 refine sR <| oO <| O_box rfl rfl rfl fun b1=>oA rfl rfl <| nT <| zad <| sR <| oM rfl rfl <| oP (zaa rfl ⟨_,_,_,Tryz.runUnderlying91,rfl,rfl,Tryz.sizeOf9,rfl⟩) rfl <| oV (zag rfl foc0 rfl Tryz.isAgg9) rfl <| oO <| zaq (zre) rfl Tryz.call66 (Dels.cons del2 (Dels.cons del2 Dels.nil)) rfl fun _ hc2=>oA rfl rfl <| nT <| sR <| oM rfl rfl <| oP (P_neq rfl rfl) rfl <| nT ?_
 first | (refine zao rfl (fun hg1 => ?_) (fun hg1 => ?_)) | (refine zap rfl (fun hg1 => ?_) (fun hg1 => ?_)) | (refine zar rfl (fun hg1 => ?_) (fun hg1 => ?_))
 ·
  refine sR <| oM rfl rfl <| oA rfl rfl <| nT <| zaj <| zae <| zan (res1 Tryz.results55 rfl) ?_
  have e1:m.addE d.name=m.freshE d.name := by unfold Md.addE; first | rw [if_pos (by assumption)] | rw [if_neg (by assumption),if_pos (by omega)]
  have e2 := zsz (m:=m) (d:=d) (by rw [e1]; assumption)
  rw [e2]
  refine CSpec.close c ?_ ?_ (t0_ (t0_ (eD (eD eR))))
  · exact iv e1.symm
  · trivial
 ·
  refine kT <| zad <| sR <| oM rfl rfl <| oO <| zaq (zrf) rfl Tryz.call43 (Dels.cons del0 (Dels.cons del0 Dels.nil)) rfl fun _ hc4=>oV (V_len rfl foc0 (Reads.sl _ _ _) Tryz.runUnderlying59) rfl <| oP (P_geq rfl rfl) rfl <| nT ?_
  first | (refine zao rfl (fun hg2 => ?_) (fun hg2 => ?_)) | (refine zap rfl (fun hg2 => ?_) (fun hg2 => ?_)) | (refine zar rfl (fun hg2 => ?_) (fun hg2 => ?_))
  ·
   refine sR <| oA rfl rfl <| nT <| zaj <| zae <| zan (res1 Tryz.results55 rfl) ?_
   have e1:m.addE d.name=4 := by unfold Md.addE; first | rw [if_pos (by assumption)] | rw [if_neg (by assumption),if_pos (by omega)]
   have e2 := zsz (m:=m) (d:=d) (by rw [e1]; decide)
   rw [e2]
   refine CSpec.close c ?_ ?_ (t1_ (t1_ (eD (eD (eD eR)))))
   · exact iv e1.symm
   · trivial
  ·
   refine kT <| zad <| zbd (Ent.trans (t2_ eR) zlm) ?_
   have e0:m.addE d.name=0 := by unfold Md.addE; rw [if_neg (by assumption),if_neg (by omega)]
   obtain ⟨hok1,hok2⟩ := hok e0
   refine za4 1152 (by kernel_rfl) rfl <| aN 0 1 rfl rfl (zah rfl) rfl <| aN 1 3 rfl rfl (zah rfl) rfl <| aN 2 7 rfl rfl (zaf rfl) rfl <| aN 3 15 rfl rfl (zaa rfl ⟨_,_,_,Tryz.runUnderlying72,rfl,rfl,Tryz.sizeOf70,rfl⟩) rfl <| aV 4 31 rfl rfl (zac rfl) (t0_ (t0_ (t0_ (t0_ (t0_ (t0_ (t0_ eR))))))) (zag rfl foc4 rfl Tryz.isAgg70) rfl <| aV 5 63 rfl rfl (zac rfl) (t0_ (t0_ (t0_ (t0_ (t0_ (t0_ (t0_ eR))))))) (zbo rfl foc5 Tryz.isAgg91 Tryz.sizeOf91 rfl rfl) rfl <| AJ_op 6 127 rfl (by kernel_rfl) rfl (zac rfl) <| za7 rfl (zo2 _ _ _ _ _ _ _ _ _ _ _ _ _ _ _ _ _ _) rfl fun b5=>⟨fun _=>(t1_ (t1_ (t1_ (t1_ (t1_ (t1_ (t1_ (eD eR)))))))),?_⟩
   refine AJ_op 7 255 rfl (by kernel_rfl) rfl (zac rfl) <| zbv (t:=tyDv) (bytes:=128) rfl rfl del1 foc0 (Reads.lit (t:=tyDv) (ys:=[(h,d)]) rfl rfl (by decide) (by decide) rfl) Tryz.underlying70 zza (by simp only [List.length_append,List.length_map,List.length_cons,List.length_nil,maxLen] at *; omega) (by simp only [List.length_append,List.length_map,List.length_cons,List.length_nil,maxLen] at *; omega) rfl fun p6 c7=>⟨fun h=>absurd h (by decide),?_⟩
   refine aN 8 511 rfl rfl (zaf rfl) rfl <| aN 9 1023 rfl rfl (zaa rfl ⟨_,_,_,Tryz.runUnderlying72,rfl,rfl,Tryz.sizeOf70,rfl⟩) rfl <| AJ_op 10 2047 rfl (by kernel_rfl) rfl (zac rfl) <| zbh rfl rfl foc5 rfl rfl Tryz.sizeOf70 <| ⟨fun h=>absurd h (by decide),?_⟩
   refine aD <| sR <| oA rfl rfl <| nT <| zaj <| zan (res1 Tryz.results55 rfl) ?_
   rw [zzb e0]
   refine CSpec.close { c with dv := ⟨p6,_,c7⟩,l := c.l ++ [(h,d)] } ?_ ?_ (Ent.trans (Ent.trans (t7_ (t3_ (t0_ (t1_ eR)))) (zvx (dv:=⟨p6,_,c7⟩) hW hok1 hok2)) (t3_ (t0_ (eD (eD (eD eR))))))
   · exact iv e0.symm
   · trivial
theorem zl6 {W:World} {b z:Nat} {c:RH} {m:Md} {n:ByteArray} (hlen:m.dv.length + 1≤10000) (hz:z≤65536) :
    CSpec Tryz.prog W 21 [ptr b 0,.string n,.int .i64 (z:Int)] [blk b 72 (zbi c m),RefR c m] (fun _:RH => .int .i64 (m.addE n)) (fun _=>True) (fun c2 F=>blk b 72 (zbi c2 (m.baS n z))::RefR c2 (m.baS n z)::F) := by
 refine CSpec.of_body Tryz.func21 rfl Tryz.ntmps21 rfl fun F => ?_
 show CJ _ _ _ _ _ _ (_::_::F)
 refine zba (zci foc1) fun hW => ?_
 have hO := hW.ok
 have hln := hW.big.len
 have hll := hW.len
 have hns := Md.names_len (m:=m)
 refine sR <| oA rfl rfl <| nT <| sR <| oM rfl rfl <| oM rfl rfl <| oM rfl rfl <| oO <| ze6 (t:=tyU) (m:=z) (x0:=(0:UInt64)) (z:=_) (bytes:=_) rfl rfl rfl rfl Tryz.underlying67 ⟨Tryz.t31,by kernel_rfl,rfl,rfl,rfl⟩ rfl (by omega) (by decide) rfl fun b1=>oP (zbm rfl (zme _ _ _ _ _)) rfl <| zcl (Ent.trans (t0_ eR) (zxv (n:=n) (z:=z) (v:=⟨some ⟨b1,0,none⟩,z,z⟩))) <| oO <| zaq ((zvy (h:=⟨⟨some ⟨b1,0,none⟩,z,z⟩,s3z,s3z,s3z⟩) (d:=bNew n z) (zxt hO hW.big hlen hz))) rfl Tryz.call55 (Dels.cons del0 (Dels.cons del0 (Dels.cons del0 Dels.nil))) rfl fun c9 hc2=>oA rfl rfl <| nT <| zaj <| zan (res1 Tryz.results21 rfl) <| CSpec.close c9 ?_ ?_ (t0_ (t0_ eR))
 · rfl
 · trivial
theorem zvz {W:World} {b:Nat} {c:RH} {m:Md} {n:ByteArray} (hlen:m.dv.length + 1≤10000) :
    CSpec Tryz.prog W 23 [ptr b 0,.string n] [blk b 72 (zbi c m),RefR c m] (fun _:RH => .int .i64 (m.crE n)) (fun _=>True) (fun c2 F=>blk b 72 (zbi c2 (m.crS n))::RefR c2 (m.crS n)::F) := by
 refine CSpec.of_body Tryz.func23 rfl Tryz.ntmps23 rfl fun F => ?_
 show CJ _ _ _ _ _ _ (_::_::F)
 refine zba (zci foc1) fun hW => ?_
 have hO := hW.ok
 have hln := hW.big.len
 have hll := hW.len
 have hns := Md.names_len (m:=m)
 refine sR <| oA rfl rfl <| nT <| sR <| zcl (zxu (n:=n)) <| oM rfl rfl <| oM rfl rfl <| oP (zbm rfl (zp2 _)) rfl <| oO <| zaq ((zvy (h:=rd0) (d:=dNew n) (zxs hO hW.big hlen))) rfl Tryz.call55 (Dels.cons del0 (Dels.cons del0 (Dels.cons del0 Dels.nil))) rfl fun c9 hc1=>oA rfl rfl <| nT <| zaj <| zan (res1 Tryz.results23 rfl) <| CSpec.close c9 ?_ ?_ (t0_ (t0_ eR))
 · rfl
 · trivial
end Go.Proofs
set_option linter.unusedSimpArgs false
set_option maxRecDepth 20000
namespace Go.Proofs
open Go.VG
def RH.hd (c:RH) (k:Nat):RD := (c.l.getD k tyDv.dflt).1
section
variable {c:RH} {m:Md} {k:Nat} {R:List HP}
theorem zc5 (hk:k < m.dv.length):Ent (RefR c m::R) (sl tyU (c.hd k).ba.v (m.at k).base::sl tyapi_Target (c.hd k).lv.v (m.at k).live::sl tyapi_Target (c.hd k).nw.v (m.at k).new::sl tyWt (c.hd k).wt.v (m.at k).wait::sl tyDv c.dv.v c.l::sl tyapi_Answer c.tv.v m.told::ORest RowC c.l k::R) := fun g hh=>by
  obtain ⟨hW,h1⟩ := stars_pur.1 (stars_star.1 hh)
  have hl := hW.len
  have h2 := zbn (show List.Perm _ (Go.VG.Own RowC c.l::sl tyDv c.dv.v c.l::sl tyapi_Answer c.tv.v m.told::R) from (List.perm_middle (l₁:=[_,_]))) _ h1
  have h3 := zfr RowC k tyDv.dflt (by omega) _ h2
  have e:c.l.getD k tyDv.dflt=(c.hd k,m.at k) := Prod.ext rfl (hW.at k)
  rw [e] at h3
  have h4 := stars_star.1 h3
  exact zbn (show List.Perm ([sl tyU (c.hd k).ba.v (m.at k).base,sl tyapi_Target (c.hd k).lv.v (m.at k).live,sl tyapi_Target (c.hd k).nw.v (m.at k).new,sl tyWt (c.hd k).wt.v (m.at k).wait] ++ (ORest RowC c.l k::sl tyDv c.dv.v c.l::sl tyapi_Answer c.tv.v m.told::R)) ([sl tyU (c.hd k).ba.v (m.at k).base,sl tyapi_Target (c.hd k).lv.v (m.at k).live,sl tyapi_Target (c.hd k).nw.v (m.at k).new,sl tyWt (c.hd k).wt.v (m.at k).wait] ++ (sl tyDv c.dv.v c.l::sl tyapi_Answer c.tv.v m.told::ORest RowC c.l k::R)) from List.Perm.append_left _ (List.perm_middle (l₁:=[_,_])).symm) _ h4
theorem rrBa (hk:k < m.dv.length):Reads (RefR c m) tyU (c.hd k).ba.v (m.at k).base := zd2 (zc5 hk)
theorem rrLv (hk:k < m.dv.length):Reads (RefR c m) tyapi_Target (c.hd k).lv.v (m.at k).live := zd2 (Ent.trans (zc5 hk) (Ent.take del1 Ent.refl))
theorem rrNw (hk:k < m.dv.length):Reads (RefR c m) tyapi_Target (c.hd k).nw.v (m.at k).new := zd2 (Ent.trans (zc5 hk) (Ent.take del2 Ent.refl))
theorem rrWt (hk:k < m.dv.length):Reads (RefR c m) tyWt (c.hd k).wt.v (m.at k).wait := zd2 (Ent.trans (zc5 hk) (Ent.take del3 Ent.refl))
def RH.put (c:RH) (k:Nat) (h:RD) (d:Dv):RH := { c with l := c.l.set k (h,d) }
theorem RefWF.put {m':Md} {h:RD} {d:Dv} (hW:RefWF c m) (hd:m'.dv=m.dv.set k d) (ok:MdOk m') (big:MdBig m'):RefWF (c.put k h d) m' :=
  ⟨by show (c.l.set k (h,d)).map Prod.snd=_; rw [List.map_set,hW.dv,hd],ok,big⟩
theorem zed {m':Md} {h:RD} {d:Dv} (hW:RefWF c m) (hk:k < m.dv.length) (hd:m'.dv=m.dv.set k d) (ok:MdOk m') (big:MdBig m') (ht:m'.told=m.told) :
    Ent (sl tyU h.ba.v d.base::sl tyapi_Target h.lv.v d.live::sl tyapi_Target h.nw.v d.new::sl tyWt h.wt.v d.wait::sl tyDv c.dv.v (c.l.set k (h,d))::sl tyapi_Answer c.tv.v m.told::ORest RowC c.l k::R) (RefR (c.put k h d) m' :: R) := fun g hh=>by
  have hl := hW.len
  have h2 := zbn (show List.Perm ([sl tyU h.ba.v d.base,sl tyapi_Target h.lv.v d.live,sl tyapi_Target h.nw.v d.new,sl tyWt h.wt.v d.wait] ++ (sl tyDv c.dv.v (c.l.set k (h,d))::sl tyapi_Answer c.tv.v m.told::ORest RowC c.l k::R)) ([sl tyU h.ba.v d.base,sl tyapi_Target h.lv.v d.live,sl tyapi_Target h.nw.v d.new,sl tyWt h.wt.v d.wait] ++ (ORest RowC c.l k::sl tyDv c.dv.v (c.l.set k (h,d))::sl tyapi_Answer c.tv.v m.told::R)) from List.Perm.append_left _ (List.perm_middle (l₁:=[_,_]))) _ hh
  have h3 := zfs (f:=RowC) (l:=c.l) (i:=k) (h,d) (by omega) _ (stars_star.2 h2)
  have h4 := zbn (List.perm_middle (l₁:=[_,_])).symm _ h3
  refine zih (c:=c.put k h d) (hW.put hd ok big) g ?_
  rw [ht]; exact h4
end
namespace Md
def devI (m:Md) (n:ByteArray):Int := match m.dev n with | some k=>(k:Int) | none => -1
def sizeI (m:Md) (k:Int):Int := if k < 0 then 0 else m.size k.toNat
section
variable {m:Md} {n:ByteArray} {k:Nat}
theorem findI_cases:(m.find n=none∧m.findI n = -1) ∨ ∃ k,m.find n=some k∧m.findI n=(k:Int)∧k < m.dv.length∧(m.at k).gone=false∧(m.at k).name=n := by
  unfold findI
  cases h:m.find n with
  | none=>exact .inl ⟨rfl,rfl⟩
  | some k=>exact .inr ⟨k,rfl,rfl,find_lt h⟩
theorem devI_cases:(m.dev n=none∧m.devI n = -1) ∨ ∃ k,m.dev n=some k∧m.devI n=(k:Int)∧m.isD k∧m.find n=some k := by
  unfold devI
  cases h:m.dev n with
  | none=>exact .inl ⟨rfl,rfl⟩
  | some k=>exact .inr ⟨k,rfl,rfl,dev_is h⟩
theorem findI_lt:m.findI n≤(m.dv.length:Int) - 1 := by
  rcases findI_cases (m:=m) (n:=n) with ⟨_,h⟩ | ⟨k,_,h,h2,_⟩
  · rw [h]; omega
  · rw [h]; omega
theorem devI_bas (h:m.find n=some k) (hb:(m.at k).isB=true):m.devI n = -1 := by unfold devI dev; rw [h]; simp [hb]
theorem devI_dev (h:m.find n=some k) (hb:(m.at k).isB=false):m.devI n=(k:Int) := by unfold devI dev; rw [h]; simp [hb]
theorem devI_no (h:m.find n=none):m.devI n = -1 := by unfold devI dev; rw [h]; rfl
theorem sizeI_find:m.sizeI (m.findI n)=m.sizeN n := by
  unfold sizeI sizeN
  rcases findI_cases (m:=m) (n:=n) with ⟨h1,h2⟩ | ⟨k,h1,h2,_⟩
  · rw [h1,h2]; rfl
  · rw [h1,h2,if_neg (by omega)]; rfl
end
end Md
theorem zgs {W:World} {b:Nat} {c:RH} {m:Md} {n:ByteArray} :
    CSpec Tryz.prog W 65 [ptr b 0,.string n] [blk b 72 (zbi c m),RefR c m] (fun _:Unit => .int .i64 (m.devI n)) (fun _=>True) (fun _ F=>blk b 72 (zbi c m)::RefR c m::F) := by
 refine CSpec.of_body Tryz.func65 rfl Tryz.ntmps65 rfl fun F => ?_
 show CJ _ _ _ _ _ _ (_::_::F)
 refine zba (zci foc1) fun hW => ?_
 have hO := hW.ok
 have hln := hW.big.len
 have hll := hW.len
 have hat := hW.at
 refine sR <| oA rfl rfl <| nT <| sR <| oM rfl rfl <| oM rfl rfl <| oO <| zaq (zew) rfl Tryz.call39 (Dels.cons del0 (Dels.cons del0 Dels.nil)) rfl fun _ hc1=>oA rfl rfl <| nT <| zad <| zad ?_
 have hfc := Md.findI_cases (m:=m) (n:=n)
 have hfl := Md.findI_lt (m:=m) (n:=n)
 refine zai <| oM rfl rfl <| oP (P_geq rfl rfl) rfl <| oM rfl rfl ?_
 first | (refine zbp 11 rfl (fun hg1B hg1 => ?_) (fun hg1B hg1 => ?_)) | (refine zbq 11 rfl (fun hg1B hg1 => ?_) (fun hg1B hg1 => ?_)) | (refine zbr 11 rfl (fun hg1B => ?_) (fun hg1B => ?_))
 ·
  refine gP (zab rfl rfl rfl hg1B) (zah rfl) rfl <| gP (zab rfl rfl rfl hg1B) (zaf rfl) rfl <| gP (zab rfl rfl rfl hg1B) (zaa rfl ⟨_,_,_,Tryz.runUnderlying72,rfl,rfl,Tryz.sizeOf70,rfl⟩) rfl <| gV (zab rfl rfl rfl hg1B) (zag rfl foc0 rfl Tryz.isAgg70) rfl <| gP (zab rfl rfl rfl hg1B) (zah rfl) rfl <| gV (zab rfl rfl rfl hg1B) (zal rfl rfl (Int.toNat_of_nonneg (by omega)).symm (by omega) foc1 rdDv Tryz.runUnderlying70 Tryz.sizeOf91) rfl <| gP (zab rfl rfl rfl hg1B) (zay rfl ⟨_,_,_,Tryz.runUnderlying91,rfl,rfl,Tryz.sizeOf4,rfl⟩) rfl <| gV (zab rfl rfl rfl hg1B) (zaz rfl rfl (by omega) foc1 rdDv rfl rfl Tryz.isAgg4) rfl <| oP (za2 rfl hg1B rfl) rfl <| nT ?_
  first | (refine zao rfl (fun hg2 => ?_) (fun hg2 => ?_)) | (refine zap rfl (fun hg2 => ?_) (fun hg2 => ?_)) | (refine zar rfl (fun hg2 => ?_) (fun hg2 => ?_))
  ·
   refine sR <| oA rfl rfl <| nT <| zaj <| zae <| zan (res1 Tryz.results65 rfl) <| CSpec.close () ?_ ?_ (t0_ (t0_ eR))
   ·
    refine iv ?_
    rcases hfc with ⟨h8,h9⟩ | ⟨k,h8,h9,_⟩
    · first | exact (Md.devI_no h8).symm | (rw [h9]; exact (Md.devI_no h8).symm) | omega
    · simp only [h9,Int.toNat_natCast,hat] at *
      first | exact (Md.devI_bas h8 (by assumption)).symm | exact (Md.devI_dev h8 (by simp_all)).symm | omega
   · trivial
  ·
   refine kT <| sR <| oM rfl rfl <| oA rfl rfl <| nT <| zaj <| zan (res1 Tryz.results65 rfl) <| CSpec.close () ?_ ?_ (t0_ (t0_ eR))
   ·
    refine iv ?_
    rcases hfc with ⟨h8,h9⟩ | ⟨k,h8,h9,_⟩
    · first | exact (Md.devI_no h8).symm | (rw [h9]; exact (Md.devI_no h8).symm) | omega
    · simp only [h9,Int.toNat_natCast,hat] at *
      first | exact (Md.devI_bas h8 (by assumption)).symm | exact (Md.devI_dev h8 (by simp_all)).symm | omega
   · trivial
 ·
  refine RJ_gn (GY_no rfl rfl rfl hg1B) rfl rfl <| RJ_gn (GY_no rfl rfl rfl hg1B) rfl rfl <| RJ_gn (GY_no rfl rfl rfl hg1B) rfl rfl <| RJ_gn (GY_no rfl rfl rfl hg1B) rfl rfl <| RJ_gn (GY_no rfl rfl rfl hg1B) rfl rfl <| RJ_gn (GY_no rfl rfl rfl hg1B) rfl rfl <| RJ_gn (GY_no rfl rfl rfl hg1B) rfl rfl <| RJ_gn (GY_no rfl rfl rfl hg1B) rfl rfl <| oP (za5 rfl hg1B rfl) rfl <| nT <| zbf rfl rfl <| kT <| sR <| oM rfl rfl <| oA rfl rfl <| nT <| zaj <| zan (res1 Tryz.results65 rfl) <| CSpec.close () ?_ ?_ (t0_ (t0_ eR))
  ·
   refine iv ?_
   rcases hfc with ⟨h8,h9⟩ | ⟨k,h8,h9,_⟩
   · first | exact (Md.devI_no h8).symm | (rw [h9]; exact (Md.devI_no h8).symm) | omega
   · simp only [h9,Int.toNat_natCast,hat] at *
     first | exact (Md.devI_bas h8 (by assumption)).symm | exact (Md.devI_dev h8 (by simp_all)).symm | omega
  · trivial
theorem zo3 {W:World} {b:Nat} {c:RH} {m:Md} {k:Int} (hk:k < (m.dv.length:Int)) :
    CSpec Tryz.prog W 88 [ptr b 0,.int .i64 k] [blk b 72 (zbi c m),RefR c m] (fun _:Unit => .int .i64 (m.sizeI k)) (fun _=>True) (fun _ F=>blk b 72 (zbi c m)::RefR c m::F) := by
 refine CSpec.of_body Tryz.func88 rfl Tryz.ntmps88 rfl fun F => ?_
 show CJ _ _ _ _ _ _ (_::_::F)
 refine zba (zci foc1) fun hW => ?_
 have hO := hW.ok
 have hln := hW.big.len
 have hll := hW.len
 have hat := hW.at
 refine sR <| oA rfl rfl <| nT <| zad <| sR <| oM rfl rfl <| oP (P_lss rfl rfl) rfl <| nT ?_
 first | (refine zao rfl (fun hg1 => ?_) (fun hg1 => ?_)) | (refine zap rfl (fun hg1 => ?_) (fun hg1 => ?_)) | (refine zar rfl (fun hg1 => ?_) (fun hg1 => ?_))
 ·
  refine sR <| oA rfl rfl <| nT <| zaj <| zae <| zan (res1 Tryz.results88 rfl) <| CSpec.close () ?_ ?_ (t0_ (t0_ eR))
  ·
   refine iv ?_
   unfold Md.sizeI Md.size
   first | rw [if_pos (by omega)] | (rw [if_neg (by omega),if_pos (by rw [← hat]; assumption)]) | (rw [if_neg (by omega),if_neg (by rw [← hat]; simp_all)])
  · trivial
 ·
  refine kT <| zad <| sR <| oM rfl rfl <| oP (zaf rfl) rfl <| oP (zaa rfl ⟨_,_,_,Tryz.runUnderlying72,rfl,rfl,Tryz.sizeOf70,rfl⟩) rfl <| oV (zag rfl foc0 rfl Tryz.isAgg70) rfl <| oM rfl rfl <| oV (zal rfl rfl (Int.toNat_of_nonneg (by omega)).symm (by omega) foc1 rdDv Tryz.runUnderlying70 Tryz.sizeOf91) rfl <| oP (zay rfl ⟨_,_,_,Tryz.runUnderlying91,rfl,rfl,Tryz.sizeOf4,rfl⟩) rfl <| oV (zaz rfl rfl (by omega) foc1 rdDv rfl rfl Tryz.isAgg4) rfl <| nT ?_
  first | (refine zao rfl (fun hg2 => ?_) (fun hg2 => ?_)) | (refine zap rfl (fun hg2 => ?_) (fun hg2 => ?_)) | (refine zar rfl (fun hg2 => ?_) (fun hg2 => ?_))
  ·
   refine sR <| oM rfl rfl <| oP (zaf rfl) rfl <| oP (zaa rfl ⟨_,_,_,Tryz.runUnderlying72,rfl,rfl,Tryz.sizeOf70,rfl⟩) rfl <| oV (zag rfl foc0 rfl Tryz.isAgg70) rfl <| oM rfl rfl <| oV (zal rfl rfl (Int.toNat_of_nonneg (by omega)).symm (by omega) foc1 rdDv Tryz.runUnderlying70 Tryz.sizeOf91) rfl <| oP (zay rfl ⟨_,_,_,Tryz.runUnderlying91,rfl,rfl,Tryz.sizeOf67,rfl⟩) rfl <| oV (zaz rfl rfl (by omega) foc1 rdDv rfl rfl Tryz.isAgg67) rfl <| oV (V_len rfl foc1 (rrBa (by omega)) Tryz.runUnderlying67) rfl <| oA rfl rfl <| nT <| zaj <| zae <| zan (res1 Tryz.results88 rfl) <| CSpec.close () ?_ ?_ (t0_ (t0_ eR))
   ·
    refine iv ?_
    unfold Md.sizeI Md.size
    first | rw [if_pos (by omega)] | (rw [if_neg (by omega),if_pos (by rw [← hat]; assumption)]) | (rw [if_neg (by omega),if_neg (by rw [← hat]; simp_all)])
   · trivial
  ·
   refine kT <| sR <| oM rfl rfl <| oP (zaf rfl) rfl <| oP (zaa rfl ⟨_,_,_,Tryz.runUnderlying72,rfl,rfl,Tryz.sizeOf70,rfl⟩) rfl <| oV (zag rfl foc0 rfl Tryz.isAgg70) rfl <| oM rfl rfl <| oV (zal rfl rfl (Int.toNat_of_nonneg (by omega)).symm (by omega) foc1 rdDv Tryz.runUnderlying70 Tryz.sizeOf91) rfl <| oP (zay rfl ⟨_,_,_,Tryz.runUnderlying91,rfl,rfl,Tryz.sizeOf30,rfl⟩) rfl <| oV (zaz rfl rfl (by omega) foc1 rdDv rfl rfl Tryz.isAgg30) rfl <| oO <| zaq (zf4 (rrLv (by omega)) zql) rfl Tryz.call84 (Dels.cons del1 Dels.nil) rfl fun _ hc1=>oA rfl rfl <| nT <| zaj <| zan (res1 Tryz.results88 rfl) <| CSpec.close () ?_ ?_ (t1_ (t0_ eR))
   ·
    refine iv ?_
    unfold Md.sizeI Md.size
    first | rw [if_pos (by omega)] | (rw [if_neg (by omega),if_pos (by rw [← hat]; assumption)]) | (rw [if_neg (by omega),if_neg (by rw [← hat]; simp_all)])
   · trivial
end Go.Proofs
set_option linter.unusedSimpArgs false
set_option maxRecDepth 20000
namespace Go.Proofs
open Go.VG
theorem stq {α:Type} {l:List α} {k:Nat} {x d:α} (hk:k < l.length):(l.set k x).getD k d=x := by simp [List.getD,hk]
theorem zrg {l:List api_Target} (h:chk l=0) {i:Nat} (hi:i < l.length):1≤(l.getD i tyapi_Target.dflt).Length∧(l.getD i tyapi_Target.dflt).Length≤16777216∧0≤(l.getD i tyapi_Target.dflt).Offset∧(l.getD i tyapi_Target.dflt).Offset≤16777216 := by
  show 1≤(l.getD i tgt0).Length∧(l.getD i tgt0).Length≤16777216∧0≤(l.getD i tgt0).Offset∧(l.getD i tgt0).Offset≤16777216
  obtain ⟨_,h2,h3,h4,h5⟩ := zgx l 0 (zbx h).2 i hi
  omega
namespace Md
section
variable {m:Md} {l:List api_Target} {i k:Nat} {z:Int}
theorem fits_take (hi:i < l.length) (h:m.fits (l.take i)=true) (h2:(l.getD i tyapi_Target.dflt).On=noN∨(l.getD i tyapi_Target.dflt).Offset + (l.getD i tyapi_Target.dflt).Length≤m.sizeN (l.getD i tyapi_Target.dflt).On):m.fits (l.take (i + 1))=true := by
  unfold fits at h ⊢
  rw [takeD tgt0 hi,List.all_append,h,List.all_cons,List.all_nil,decide_eq_true h2]; rfl
theorem fits_no (hi:i < l.length) (h2:¬ ((l.getD i tyapi_Target.dflt).On=noN∨(l.getD i tyapi_Target.dflt).Offset + (l.getD i tyapi_Target.dflt).Length≤m.sizeN (l.getD i tyapi_Target.dflt).On)):m.fits l=false := by
  rw [Bool.eq_false_iff]
  intro h
  unfold fits at h
  exact h2 (of_decide_eq_true (List.all_eq_true.1 h _ (zb9 tgt0 hi)))
abbrev nT (m:Md) (k:Nat) (z:Int) (t:api_Target):Prop := t.On≠(m.at k).name∨t.Offset + t.Length≤z
theorem rneeds_true (hO:MdOk m) (hk:m.isD k) (h:∀ i,i < m.dv.length→(m.at i).gone=false→i≠k → ∀ t ∈ tbl (m.at i),nT m k z t):m.needs k z=true := by
  unfold needs
  rw [List.all_eq_true]
  intro d hd
  obtain ⟨i,hi,rfl⟩ := List.getElem_of_mem hd
  have e:m.dv[i]=m.at i := by simp [Md.at,List.getD,hi]
  rw [e,Bool.or_eq_true]
  cases hg:(m.at i).gone with
  | true=>exact .inl rfl
  | false =>
    right
    rw [List.all_eq_true]
    intro t ht
    refine decide_eq_true ?_
    by_cases ei:i=k
    · subst ei
      left
      intro e2
      obtain ⟨rk,hr⟩ := hO.acy
      have := hr i hi hg t ht i (by rw [e2]; exact find_at hO hi hg)
      omega
    · exact h i hi hg ei t ht
theorem rneeds_false (hi:i < m.dv.length) (hg:(m.at i).gone=false) {t:api_Target} (ht:t ∈ tbl (m.at i)) (h:¬ nT m k z t):m.needs k z=false := by
  rw [Bool.eq_false_iff]
  intro h2
  unfold needs at h2
  have h3 := List.all_eq_true.1 h2 (m.at i) (by simp [Md.at,List.getD,hi])
  rw [hg,Bool.false_or,List.all_eq_true] at h3
  exact h (of_decide_eq_true (h3 t ht))
theorem tbl_bd (hO:MdOk m) {t:api_Target} (ht:t ∈ tbl (m.at i)):1≤t.Length∧t.Length≤16777216∧0≤t.Offset∧t.Offset≤16777216 := by
  have key:∀ l:List api_Target,chk l=0→t ∈ l→1≤t.Length∧t.Length≤16777216∧0≤t.Offset∧t.Offset≤16777216 := fun l hl h=>by
    obtain ⟨j,hj,rfl⟩ := List.getElem_of_mem h
    have := zrg hl hj
    simpa [List.getD,hj] using this
  rcases List.mem_append.1 ht with h | h
  · exact key _ (hO.chk i).1 h
  · exact key _ (hO.chk i).2 h
end
end Md
theorem zln {c:RH} {m:Md} {R:List HP} : Ent (RefR c m::R) (sl tyapi_Answer c.tv.v m.told::RefR { c with tv := s3z } { m with told := [] } :: R) := fun h hh=>by
  obtain ⟨hw,h1⟩ := stars_pur.1 (stars_star.1 hh)
  have hw2:RefWF { c with tv := s3z } { m with told := [] } := ⟨hw.dv,⟨hw.ok.uniq,hw.ok.nm,hw.ok.chk,hw.ok.nam,hw.ok.acy,hw.ok.bas,hw.ok.hl,hw.ok.hn,hw.ok.org⟩,⟨hw.big.len,hw.big.wl,hw.big.tks,Nat.zero_le _,hw.big.wr⟩⟩
  have h2 := zbn (List.Perm.swap _ _ _) _ h1
  obtain ⟨a1,a2,d1,e1,p1,q1⟩ := h2
  refine ⟨a1,a2,d1,e1,p1,stars_star.2 (stars_pur.2 ⟨hw2,?_⟩)⟩
  have q2:stars (sl tyapi_Answer (Sl3.v s3z) []::sl tyDv c.dv.v c.l::Go.VG.Own RowC c.l::R) a2 := zb2 (t:=tyapi_Answer) _ q1
  exact zbn (List.Perm.swap _ _ _) _ q2
theorem zzc {W:World} {b:Nat} {A:HP} {v:Value} {xs:List api_Target} {c:RH} {m:Md} (hA:Reads A tyapi_Target v xs) (hc:chk xs=0) :
    CSpec Tryz.prog W 77 [ptr b 0,v] [A,blk b 72 (zbi c m),RefR c m] (fun _:Unit => .bool (m.fits xs)) (fun _=>True) (fun _ F=>A::blk b 72 (zbi c m)::RefR c m::F) := by
 refine CSpec.of_body Tryz.func77 rfl Tryz.ntmps77 rfl fun F => ?_
 show CJ _ _ _ _ _ _ (_::_::_::F)
 refine zba (zci foc2) fun hW => ?_
 have hO := hW.ok
 have hln := hW.big.len
 have hll := hW.len
 have hat := hW.at
 refine sR <| oA rfl rfl <| nT <| zad <| sR <| oA rfl rfl <| nT <| zas <| zbe (X:=Nat) [4,5,6,7,8,9,10,11,12,13,14,15,16,17,18,19,20,21,22,23,24,25,26,27,28,29,30,31,32,33,34,35,36,37,38,39,40] (fun i  => ([(5,.int .i64 (i:Nat))]:Slots)) (fun i R=>R) (fun i  => i≤xs.length∧m.fits (xs.take i)=true) (fun i  => xs.length - i) (0) ?_ ?_ (t0_ (t0_ (t0_ eR))) ?_
 · exact ⟨Nat.zero_le _,rfl⟩
 · exact ⟨rfl,True.intro⟩
 ·
  intro i hpf
  obtain ⟨hi,hft⟩ := hpf
  show CJ _ _ _ _ _ (([(5,.int .i64 (i:Nat))]:Slots) ++ forget _ _) (_)
  have hx64 := (zbx hc).1
  refine zad <| sR <| oM rfl rfl <| oM rfl rfl <| oV (V_len rfl foc0 hA Tryz.runUnderlying30) rfl <| oP (P_lss rfl rfl) rfl <| nT ?_
  first | (refine zao rfl (fun hg1 => ?_) (fun hg1 => ?_)) | (refine zap rfl (fun hg1 => ?_) (fun hg1 => ?_)) | (refine zar rfl (fun hg1 => ?_) (fun hg1 => ?_))
  ·
   refine kT <| zad <| zas <| zad ?_
   have hlt:i < xs.length := by omega
   have hbd := zrg hc hlt
   refine za4 0 (by kernel_rfl) rfl <| aN 0 1 rfl rfl (zah rfl) rfl <| aN 1 3 rfl rfl (zah rfl) rfl ?_
   first | (refine za9 2 7 rfl (by kernel_rfl) rfl (by kernel_rfl) (by kernel_rfl) (zac rfl) (t0_ (t0_ (t0_ eR))) (zal rfl rfl rfl (by omega) foc0 hA Tryz.runUnderlying30 Tryz.sizeOf37) rfl (fun _ _ _ _ h=>h) ?_) | (refine za9 2 7 rfl (by kernel_rfl) rfl (by kernel_rfl) (by kernel_rfl) (zac rfl) (t0_ (t0_ (t0_ eR))) (zal rfl rfl (Int.toNat_of_nonneg (by omega)).symm (by omega) foc0 hA Tryz.runUnderlying30 Tryz.sizeOf37) rfl (fun _ _ _ _ h=>h) ?_)
   refine aN 3 15 rfl rfl (zay rfl ⟨_,_,_,Tryz.runUnderlying37,rfl,rfl,Tryz.sizeOf9,rfl⟩) rfl <| aV 4 31 rfl rfl (zac rfl) (t0_ (t0_ (t0_ eR))) (zaz rfl rfl (by omega) foc0 hA rfl rfl Tryz.isAgg9) rfl <| aN 5 63 rfl rfl (zdo rfl rfl Tryz.underlying9) rfl <| aN 6 127 rfl rfl (zah rfl) rfl ?_
   first | (refine zc6 18 rfl (fun hg2B hg2 => ?_) (fun hg2B hg2 => ?_)) | (refine zc7 18 rfl (fun hg2B hg2 => ?_) (fun hg2B hg2 => ?_)) | (refine zdm 18 rfl (fun hg2B => ?_) (fun hg2B => ?_))
   ·
    refine aP 7 255 rfl rfl (zab rfl rfl rfl hg2B) (zah rfl) rfl <| aP 8 511 rfl rfl (zab rfl rfl rfl hg2B) (zah rfl) rfl ?_
    first | (refine za9 9 1023 rfl (by kernel_rfl) rfl (by kernel_rfl) (by kernel_rfl) (zab rfl rfl rfl hg2B) (t0_ (t0_ (t0_ eR))) (zal rfl rfl rfl (by omega) foc0 hA Tryz.runUnderlying30 Tryz.sizeOf37) rfl (fun _ _ _ _ h=>h) ?_) | (refine za9 9 1023 rfl (by kernel_rfl) rfl (by kernel_rfl) (by kernel_rfl) (zab rfl rfl rfl hg2B) (t0_ (t0_ (t0_ eR))) (zal rfl rfl (Int.toNat_of_nonneg (by omega)).symm (by omega) foc0 hA Tryz.runUnderlying30 Tryz.sizeOf37) rfl (fun _ _ _ _ h=>h) ?_)
    refine aP 10 2047 rfl rfl (zab rfl rfl rfl hg2B) (zay rfl ⟨_,_,_,Tryz.runUnderlying37,rfl,rfl,Tryz.sizeOf3,rfl⟩) rfl <| aV 11 4095 rfl rfl (zab rfl rfl rfl hg2B) (t0_ (t0_ (t0_ eR))) (zaz rfl rfl (by omega) foc0 hA rfl rfl Tryz.isAgg3) rfl <| aP 12 8191 rfl rfl (zab rfl rfl rfl hg2B) (zah rfl) rfl <| aP 13 16383 rfl rfl (zab rfl rfl rfl hg2B) (zah rfl) rfl ?_
    first | (refine za9 14 32767 rfl (by kernel_rfl) rfl (by kernel_rfl) (by kernel_rfl) (zab rfl rfl rfl hg2B) (t0_ (t0_ (t0_ eR))) (zal rfl rfl rfl (by omega) foc0 hA Tryz.runUnderlying30 Tryz.sizeOf37) rfl (fun _ _ _ _ h=>h) ?_) | (refine za9 14 32767 rfl (by kernel_rfl) rfl (by kernel_rfl) (by kernel_rfl) (zab rfl rfl rfl hg2B) (t0_ (t0_ (t0_ eR))) (zal rfl rfl (Int.toNat_of_nonneg (by omega)).symm (by omega) foc0 hA Tryz.runUnderlying30 Tryz.sizeOf37) rfl (fun _ _ _ _ h=>h) ?_)
    refine aP 15 65535 rfl rfl (zab rfl rfl rfl hg2B) (zay rfl ⟨_,_,_,Tryz.runUnderlying37,rfl,rfl,Tryz.sizeOf3,rfl⟩) rfl <| aV 16 131071 rfl rfl (zab rfl rfl rfl hg2B) (t0_ (t0_ (t0_ eR))) (zaz rfl rfl (by omega) foc0 hA rfl rfl Tryz.isAgg3) rfl <| aP 17 262143 rfl rfl (zab rfl rfl rfl hg2B) (P_add rfl rfl (by omega)) rfl <| aP 18 524287 rfl rfl (zab rfl rfl rfl hg2B) (zah rfl) rfl <| aP 19 1048575 rfl rfl (zab rfl rfl rfl hg2B) (zah rfl) rfl <| aP 20 2097151 rfl rfl (zab rfl rfl rfl hg2B) (zah rfl) rfl <| aP 21 4194303 rfl rfl (zab rfl rfl rfl hg2B) (zah rfl) rfl ?_
    first | (refine za9 22 8388607 rfl (by kernel_rfl) rfl (by kernel_rfl) (by kernel_rfl) (zab rfl rfl rfl hg2B) (t0_ (t0_ (t0_ eR))) (zal rfl rfl rfl (by omega) foc0 hA Tryz.runUnderlying30 Tryz.sizeOf37) rfl (fun _ _ _ _ h=>h) ?_) | (refine za9 22 8388607 rfl (by kernel_rfl) rfl (by kernel_rfl) (by kernel_rfl) (zab rfl rfl rfl hg2B) (t0_ (t0_ (t0_ eR))) (zal rfl rfl (Int.toNat_of_nonneg (by omega)).symm (by omega) foc0 hA Tryz.runUnderlying30 Tryz.sizeOf37) rfl (fun _ _ _ _ h=>h) ?_)
    refine aP 23 16777215 rfl rfl (zab rfl rfl rfl hg2B) (zay rfl ⟨_,_,_,Tryz.runUnderlying37,rfl,rfl,Tryz.sizeOf9,rfl⟩) rfl <| aV 24 33554431 rfl rfl (zab rfl rfl rfl hg2B) (t0_ (t0_ (t0_ eR))) (zaz rfl rfl (by omega) foc0 hA rfl rfl Tryz.isAgg9) rfl <| AJ_op 25 67108863 rfl (by kernel_rfl) rfl (zab rfl rfl rfl hg2B) <| zaq (zew) rfl Tryz.call39 (Dels.cons del1 (Dels.cons del1 Dels.nil)) rfl fun _ hc1=>⟨fun _=>(t2_ (t0_ (t0_ eR))),?_⟩
    refine AJ_op 26 134217727 rfl (by kernel_rfl) rfl (zab rfl rfl rfl hg2B) <| zaq (zo3 (Int.lt_of_le_of_lt Md.findI_lt (by omega))) rfl Tryz.call88 (Dels.cons del0 (Dels.cons del0 Dels.nil)) rfl fun _ hc2=>⟨fun _=>(t2_ (t0_ (t0_ eR))),?_⟩
    refine aP 27 268435455 rfl rfl (zab rfl rfl rfl hg2B) (P_gtr rfl rfl) rfl <| aN 28 536870911 rfl rfl (za2 rfl hg2B rfl) rfl <| aD ?_
    first | (refine zao rfl (fun hg3 => ?_) (fun hg3 => ?_)) | (refine zap rfl (fun hg3 => ?_) (fun hg3 => ?_)) | (refine zar rfl (fun hg3 => ?_) (fun hg3 => ?_))
    ·
     refine sR <| oA rfl rfl <| nT <| zaj <| zam <| zae <| zbb <| zam <| zae <| zan (res1 Tryz.results77 rfl) <| CSpec.close () ?_ ?_ (t2_ (t0_ (t0_ eR)))
     ·
      exact bv (Md.fits_no hlt (by rw [← Md.sizeI_find]; rintro (h | h)
                                   · exact absurd h (by simp_all)
                                   · omega)).symm
     · trivial
    ·
     refine za8 <| zak <| zat <| zai <| oM rfl rfl <| oP (P_add rfl rfl (by omega)) rfl <| oA rfl rfl <| za0 <| za6 (i + 1) (by first | omega | (simp only []; omega)) ?_ (by repeat (first | exact Kp.base | exact Kp.self | refine Kp.cons rfl ?_ | refine Kp.forget rfl ?_)) ?_ (t2_ (t0_ (t0_ eR)))
     ·
      refine ⟨by omega,Md.fits_take (by omega) hft ?_⟩
      rw [← Md.sizeI_find]
      first | (left; simp_all; done) | (right; omega) | (right; simp_all; done)
     · exact ⟨rfl,True.intro⟩
   ·
    refine aS 7 255 rfl rfl (GY_no rfl rfl rfl hg2B) rfl <| aS 8 511 rfl rfl (GY_no rfl rfl rfl hg2B) rfl <| aS 9 1023 rfl rfl (GY_no rfl rfl rfl hg2B) rfl <| aS 10 2047 rfl rfl (GY_no rfl rfl rfl hg2B) rfl <| aS 11 4095 rfl rfl (GY_no rfl rfl rfl hg2B) rfl <| aS 12 8191 rfl rfl (GY_no rfl rfl rfl hg2B) rfl <| aS 13 16383 rfl rfl (GY_no rfl rfl rfl hg2B) rfl <| aS 14 32767 rfl rfl (GY_no rfl rfl rfl hg2B) rfl <| aS 15 65535 rfl rfl (GY_no rfl rfl rfl hg2B) rfl <| aS 16 131071 rfl rfl (GY_no rfl rfl rfl hg2B) rfl <| aS 17 262143 rfl rfl (GY_no rfl rfl rfl hg2B) rfl <| aS 18 524287 rfl rfl (GY_no rfl rfl rfl hg2B) rfl <| aS 19 1048575 rfl rfl (GY_no rfl rfl rfl hg2B) rfl <| aS 20 2097151 rfl rfl (GY_no rfl rfl rfl hg2B) rfl <| aS 21 4194303 rfl rfl (GY_no rfl rfl rfl hg2B) rfl <| aS 22 8388607 rfl rfl (GY_no rfl rfl rfl hg2B) rfl <| aS 23 16777215 rfl rfl (GY_no rfl rfl rfl hg2B) rfl <| aS 24 33554431 rfl rfl (GY_no rfl rfl rfl hg2B) rfl <| aS 25 67108863 rfl rfl (GY_no rfl rfl rfl hg2B) rfl <| aS 26 134217727 rfl rfl (GY_no rfl rfl rfl hg2B) rfl <| aS 27 268435455 rfl rfl (GY_no rfl rfl rfl hg2B) rfl <| aN 28 536870911 rfl rfl (za5 rfl hg2B rfl) rfl <| aD <| zbf rfl rfl <| za8 <| zak <| zat <| zai <| oM rfl rfl <| oP (P_add rfl rfl (by omega)) rfl <| oA rfl rfl <| za0 ?_
    refine za6 (i + 1) (by first | omega | (simp only []; omega)) ?_ (by repeat (first | exact Kp.base | exact Kp.self | refine Kp.cons rfl ?_ | refine Kp.forget rfl ?_)) ?_ (t0_ (t0_ (t0_ eR)))
    ·
     refine ⟨by omega,Md.fits_take (by omega) hft ?_⟩
     rw [← Md.sizeI_find]
     first | (left; simp_all; done) | (right; omega) | (right; simp_all; done)
    · exact ⟨rfl,True.intro⟩
  ·
   refine zbg <| zaw <| zav <| zau <| zat <| sR <| oA rfl rfl <| nT <| zaj <| zan (res1 Tryz.results77 rfl) <| CSpec.close () ?_ ?_ (t0_ (t0_ (t0_ eR)))
   ·
    obtain rfl:i=xs.length := by omega
    rw [List.take_length] at hft
    exact bv hft.symm
   · trivial
theorem zxw {W:World} {b k:Nat} {c:RH} {m:Md} {z:Int} (hk:m.isD k) :
    CSpec Tryz.prog W 83 [ptr b 0,.int .i64 (k:Int),.int .i64 z] [blk b 72 (zbi c m),RefR c m] (fun _:Unit => .bool (m.needs k z)) (fun _=>True) (fun _ F=>blk b 72 (zbi c m)::RefR c m::F) := by
 refine CSpec.of_body Tryz.func83 rfl Tryz.ntmps83 rfl fun F => ?_
 show CJ _ _ _ _ _ _ (_::_::F)
 refine zba (zci foc1) fun hW => ?_
 have hO := hW.ok
 have hln := hW.big.len
 have hll := hW.len
 have hat := hW.at
 refine sR <| oA rfl rfl <| nT <| zad <| sR <| oA rfl rfl <| nT <| zas <| zbe (X:=Nat) [6,7,8,9,10,11,12,13,14,15,16,17,18,19,20,21,22,23,24,25,26,27,28,29,30,31,32,33,34,35,36,37,38,39,40,41,42,43,44,45,46,47,48,49,50,51,52,53,54,55,56,57,58,59,60,61,62,63,64,65,66,67,68,69,70,71,72,73,74,75,76,77,78,79,80,81,82,83,84,85,86,87] (fun i  => ([(7,.int .i64 (i:Nat))]:Slots)) (fun i R=>R) (fun i  => i≤m.dv.length ∧ ∀ q,q < i→(m.at q).gone=false→q≠k → ∀ t ∈ Md.tbl (m.at q),Md.nT m k z t) (fun i  => m.dv.length - i) (0) ?_ ?_ (t0_ (t0_ eR)) ?_
 · exact ⟨Nat.zero_le _,fun j h=>by omega⟩
 · exact ⟨rfl,True.intro⟩
 ·
  intro i hpf
  obtain ⟨hi,hno⟩ := hpf
  show CJ _ _ _ _ _ (([(7,.int .i64 (i:Nat))]:Slots) ++ forget _ _) (_)
  refine zad <| sR <| oM rfl rfl <| oM rfl rfl <| oP (zaf rfl) rfl <| oP (zaa rfl ⟨_,_,_,Tryz.runUnderlying72,rfl,rfl,Tryz.sizeOf70,rfl⟩) rfl <| oV (zag rfl foc0 rfl Tryz.isAgg70) rfl <| oV (V_len rfl foc1 rdDv Tryz.runUnderlying70) rfl <| oP (P_lss rfl rfl) rfl <| nT ?_
  first | (refine zao rfl (fun hg1 => ?_) (fun hg1 => ?_)) | (refine zap rfl (fun hg1 => ?_) (fun hg1 => ?_)) | (refine zar rfl (fun hg1 => ?_) (fun hg1 => ?_))
  ·
   refine kT <| zad <| zas <| zad ?_
   have hlv := (zbx (hO.chk i).1).1
   have hnw := (zbx (hO.chk i).2).1
   have hkl := hk.1
   have htl:(Md.tbl (m.at i)).length=(m.at i).live.length + (m.at i).new.length := List.length_append
   refine za4 131072 (by kernel_rfl) rfl <| aN 0 1 rfl rfl (zah rfl) rfl <| aN 1 3 rfl rfl (zaf rfl) rfl <| aN 2 7 rfl rfl (zaa rfl ⟨_,_,_,Tryz.runUnderlying72,rfl,rfl,Tryz.sizeOf70,rfl⟩) rfl <| aV 3 15 rfl rfl (zac rfl) (t0_ (t0_ eR)) (zag rfl foc0 rfl Tryz.isAgg70) rfl <| aN 4 31 rfl rfl (zah rfl) rfl ?_
   first | (refine za9 5 63 rfl (by kernel_rfl) rfl (by kernel_rfl) (by kernel_rfl) (zac rfl) (t0_ (t0_ eR)) (zal rfl rfl rfl (by omega) foc1 rdDv Tryz.runUnderlying70 Tryz.sizeOf91) rfl (fun _ _ _ _ h=>h) ?_) | (refine za9 5 63 rfl (by kernel_rfl) rfl (by kernel_rfl) (by kernel_rfl) (zac rfl) (t0_ (t0_ eR)) (zal rfl rfl (Int.toNat_of_nonneg (by omega)).symm (by omega) foc1 rdDv Tryz.runUnderlying70 Tryz.sizeOf91) rfl (fun _ _ _ _ h=>h) ?_)
   refine aN 6 127 rfl rfl (zay rfl ⟨_,_,_,Tryz.runUnderlying91,rfl,rfl,Tryz.sizeOf30,rfl⟩) rfl <| aV 7 255 rfl rfl (zac rfl) (t0_ (t0_ eR)) (zaz rfl rfl (by omega) foc1 rdDv rfl rfl Tryz.isAgg30) rfl <| aN 9 767 rfl rfl (zah rfl) rfl <| aN 10 1791 rfl rfl (zaf rfl) rfl <| aN 11 3839 rfl rfl (zaa rfl ⟨_,_,_,Tryz.runUnderlying72,rfl,rfl,Tryz.sizeOf70,rfl⟩) rfl <| aV 12 7935 rfl rfl (zac rfl) (t0_ (t0_ eR)) (zag rfl foc0 rfl Tryz.isAgg70) rfl <| aN 13 16127 rfl rfl (zah rfl) rfl ?_
   first | (refine za9 14 32511 rfl (by kernel_rfl) rfl (by kernel_rfl) (by kernel_rfl) (zac rfl) (t0_ (t0_ eR)) (zal rfl rfl rfl (by omega) foc1 rdDv Tryz.runUnderlying70 Tryz.sizeOf91) rfl (fun _ _ _ _ h=>h) ?_) | (refine za9 14 32511 rfl (by kernel_rfl) rfl (by kernel_rfl) (by kernel_rfl) (zac rfl) (t0_ (t0_ eR)) (zal rfl rfl (Int.toNat_of_nonneg (by omega)).symm (by omega) foc1 rdDv Tryz.runUnderlying70 Tryz.sizeOf91) rfl (fun _ _ _ _ h=>h) ?_)
   refine aN 15 65279 rfl rfl (zay rfl ⟨_,_,_,Tryz.runUnderlying91,rfl,rfl,Tryz.sizeOf30,rfl⟩) rfl <| aV 16 130815 rfl rfl (zac rfl) (t0_ (t0_ eR)) (zaz rfl rfl (by omega) foc1 rdDv rfl rfl Tryz.isAgg30) rfl <| zio (fun h hh=>zb2 (t:=tyapi_Target) h hh) <| AJ_op 8 131071 rfl (by kernel_rfl) rfl (zac rfl) <| zbv (t:=tyapi_Target) (bytes:=48) rfl rfl del0 foc1 (rrLv (by omega)) Tryz.underlying30 zcf (by simp only [List.length_append,List.length_cons,List.length_nil,maxLen] at *; omega) (by simp only [List.length_append,List.length_cons,List.length_nil,maxLen] at *; omega) rfl fun p3 c4=>⟨fun _=>(t1_ (t1_ (eD eR))),?_⟩
   refine AJ_op 17 262143 rfl (by kernel_rfl) rfl (zac rfl) <| zbv (t:=tyapi_Target) (bytes:=48) rfl rfl del0 foc1 (rrNw (by omega)) Tryz.underlying30 zcf (by simp only [List.length_append,List.length_cons,List.length_nil,maxLen] at *; omega) (by simp only [List.length_append,List.length_cons,List.length_nil,maxLen] at *; omega) rfl fun p5 c6=>⟨fun h=>absurd h (by decide),?_⟩
   refine aN 18 524287 rfl rfl (zbc rfl) rfl <| aD <| sR <| oA rfl rfl <| nT <| zas <| zbd (Ent.takeC del0 (show sl tyapi_Target _ (([] ++ (m.at i).live) ++ (m.at i).new)=sl tyapi_Target _ (Md.tbl (m.at i)) from rfl) (t0_ (t0_ eR))) <| zbe (X:=Nat) [6,9,37,38,39,40,41,42,43,44,45,46,47,48,49,50,51,52,53,54,55,56,57,58,59,60,61,62,63,64,65,66,67,68,69,70,71,72,73,74,75,76,77,78,79,80,81,82,83,84,85,86,87] (fun j  => ([(9,.int .i64 (j:Nat))]:Slots)) (fun j R=>R) (fun j  => j≤(Md.tbl (m.at i)).length∧((m.at i).gone=false→i≠k → ∀ t ∈ (Md.tbl (m.at i)).take j,Md.nT m k z t)) (fun j  => (Md.tbl (m.at i)).length - j) (0) ?_ ?_ (t0_ (t0_ (t0_ eR))) ?_
   · exact ⟨Nat.zero_le _,fun _ _ t ht=>by simp at ht⟩
   · exact ⟨rfl,True.intro⟩
   ·
    intro j hpf
    obtain ⟨hj,hjn⟩ := hpf
    show CJ _ _ _ _ _ (([(9,.int .i64 (j:Nat))]:Slots) ++ forget _ _) (_)
    refine zad <| sR <| oM rfl rfl <| oM rfl rfl <| oV (V_len rfl foc0 (Reads.sl _ _ _) Tryz.runUnderlying30) rfl <| oP (P_lss rfl rfl) rfl <| nT ?_
    first | (refine zao rfl (fun hg2 => ?_) (fun hg2 => ?_)) | (refine zap rfl (fun hg2 => ?_) (fun hg2 => ?_)) | (refine zar rfl (fun hg2 => ?_) (fun hg2 => ?_))
    ·
     refine kT <| zad <| zas <| zad ?_
     have hjl:j < (Md.tbl (m.at i)).length := by omega
     have htb := Md.tbl_bd hO (zb9 tyapi_Target.dflt hjl)
     have hgi := congrArg Dv.gone (hat i)
     have hgk := congrArg Dv.name (hat k)
     refine za4 0 (by kernel_rfl) rfl <| aN 0 1 rfl rfl (zah rfl) rfl <| aN 1 3 rfl rfl (zaf rfl) rfl <| aN 2 7 rfl rfl (zaa rfl ⟨_,_,_,Tryz.runUnderlying72,rfl,rfl,Tryz.sizeOf70,rfl⟩) rfl <| aV 3 15 rfl rfl (zac rfl) (t0_ (t0_ (t0_ eR))) (zag rfl foc1 rfl Tryz.isAgg70) rfl <| aN 4 31 rfl rfl (zah rfl) rfl ?_
     first | (refine za9 5 63 rfl (by kernel_rfl) rfl (by kernel_rfl) (by kernel_rfl) (zac rfl) (t0_ (t0_ (t0_ eR))) (zal rfl rfl rfl (by omega) foc2 rdDv Tryz.runUnderlying70 Tryz.sizeOf91) rfl (fun _ _ _ _ h=>h) ?_) | (refine za9 5 63 rfl (by kernel_rfl) rfl (by kernel_rfl) (by kernel_rfl) (zac rfl) (t0_ (t0_ (t0_ eR))) (zal rfl rfl (Int.toNat_of_nonneg (by omega)).symm (by omega) foc2 rdDv Tryz.runUnderlying70 Tryz.sizeOf91) rfl (fun _ _ _ _ h=>h) ?_)
     refine aN 6 127 rfl rfl (zay rfl ⟨_,_,_,Tryz.runUnderlying91,rfl,rfl,Tryz.sizeOf4,rfl⟩) rfl <| aV 7 255 rfl rfl (zac rfl) (t0_ (t0_ (t0_ eR))) (zaz rfl rfl (by omega) foc2 rdDv rfl rfl Tryz.isAgg4) rfl <| aN 8 511 rfl rfl (P_not rfl) rfl <| aN 9 1023 rfl rfl (zah rfl) rfl ?_
     first | (refine zc6 52 rfl (fun hg3B hg3 => ?_) (fun hg3B hg3 => ?_)) | (refine zc7 52 rfl (fun hg3B hg3 => ?_) (fun hg3B hg3 => ?_)) | (refine zdm 52 rfl (fun hg3B => ?_) (fun hg3B => ?_))
     ·
      refine aP 10 2047 rfl rfl (zab rfl rfl rfl hg3B) (zah rfl) rfl <| aP 11 4095 rfl rfl (zab rfl rfl rfl hg3B) (zah rfl) rfl <| aP 12 8191 rfl rfl (zab rfl rfl rfl hg3B) (P_neq rfl rfl) rfl <| aN 13 16383 rfl rfl (za2 rfl hg3B rfl) rfl <| aN 14 32767 rfl rfl (zah rfl) rfl ?_
      first | (refine zc6 57 rfl (fun hg4B hg4 => ?_) (fun hg4B hg4 => ?_)) | (refine zc7 57 rfl (fun hg4B hg4 => ?_) (fun hg4B hg4 => ?_)) | (refine zdm 57 rfl (fun hg4B => ?_) (fun hg4B => ?_))
      ·
       refine aP 15 65535 rfl rfl (zab rfl rfl rfl hg4B) (zah rfl) rfl <| aP 16 131071 rfl rfl (zab rfl rfl rfl hg4B) (zah rfl) rfl ?_
       first | (refine za9 17 262143 rfl (by kernel_rfl) rfl (by kernel_rfl) (by kernel_rfl) (zab rfl rfl rfl hg4B) (t0_ (t0_ (t0_ eR))) (zal rfl rfl rfl (by omega) foc0 (Reads.sl _ _ _) Tryz.runUnderlying30 Tryz.sizeOf37) rfl (fun _ _ _ _ h=>h) ?_) | (refine za9 17 262143 rfl (by kernel_rfl) rfl (by kernel_rfl) (by kernel_rfl) (zab rfl rfl rfl hg4B) (t0_ (t0_ (t0_ eR))) (zal rfl rfl (Int.toNat_of_nonneg (by omega)).symm (by omega) foc0 (Reads.sl _ _ _) Tryz.runUnderlying30 Tryz.sizeOf37) rfl (fun _ _ _ _ h=>h) ?_)
       refine aP 18 524287 rfl rfl (zab rfl rfl rfl hg4B) (zay rfl ⟨_,_,_,Tryz.runUnderlying37,rfl,rfl,Tryz.sizeOf9,rfl⟩) rfl <| aV 19 1048575 rfl rfl (zab rfl rfl rfl hg4B) (t0_ (t0_ (t0_ eR))) (zaz rfl rfl (by omega) foc0 (Reads.sl _ _ _) rfl rfl Tryz.isAgg9) rfl <| aP 20 2097151 rfl rfl (zab rfl rfl rfl hg4B) (zah rfl) rfl <| aP 21 4194303 rfl rfl (zab rfl rfl rfl hg4B) (zaf rfl) rfl <| aP 22 8388607 rfl rfl (zab rfl rfl rfl hg4B) (zaa rfl ⟨_,_,_,Tryz.runUnderlying72,rfl,rfl,Tryz.sizeOf70,rfl⟩) rfl <| aV 23 16777215 rfl rfl (zab rfl rfl rfl hg4B) (t0_ (t0_ (t0_ eR))) (zag rfl foc1 rfl Tryz.isAgg70) rfl <| aP 24 33554431 rfl rfl (zab rfl rfl rfl hg4B) (zah rfl) rfl ?_
       first | (refine za9 25 67108863 rfl (by kernel_rfl) rfl (by kernel_rfl) (by kernel_rfl) (zab rfl rfl rfl hg4B) (t0_ (t0_ (t0_ eR))) (zal rfl rfl rfl (by omega) foc2 rdDv Tryz.runUnderlying70 Tryz.sizeOf91) rfl (fun _ _ _ _ h=>h) ?_) | (refine za9 25 67108863 rfl (by kernel_rfl) rfl (by kernel_rfl) (by kernel_rfl) (zab rfl rfl rfl hg4B) (t0_ (t0_ (t0_ eR))) (zal rfl rfl (Int.toNat_of_nonneg (by omega)).symm (by omega) foc2 rdDv Tryz.runUnderlying70 Tryz.sizeOf91) rfl (fun _ _ _ _ h=>h) ?_)
       refine aP 26 134217727 rfl rfl (zab rfl rfl rfl hg4B) (zay rfl ⟨_,_,_,Tryz.runUnderlying91,rfl,rfl,Tryz.sizeOf9,rfl⟩) rfl <| aV 27 268435455 rfl rfl (zab rfl rfl rfl hg4B) (t0_ (t0_ (t0_ eR))) (zaz rfl rfl (by omega) foc2 rdDv rfl rfl Tryz.isAgg9) rfl <| aP 28 536870911 rfl rfl (zab rfl rfl rfl hg4B) (zcj rfl rfl Tryz.underlying9) rfl <| aN 29 1073741823 rfl rfl (za2 rfl hg4B rfl) rfl <| aN 30 2147483647 rfl rfl (zah rfl) rfl ?_
       first | (refine zc6 73 rfl (fun hg5B hg5 => ?_) (fun hg5B hg5 => ?_)) | (refine zc7 73 rfl (fun hg5B hg5 => ?_) (fun hg5B hg5 => ?_)) | (refine zdm 73 rfl (fun hg5B => ?_) (fun hg5B => ?_))
       ·
        refine aP 31 4294967295 rfl rfl (zab rfl rfl rfl hg5B) (zah rfl) rfl <| aP 32 8589934591 rfl rfl (zab rfl rfl rfl hg5B) (zah rfl) rfl ?_
        first | (refine za9 33 17179869183 rfl (by kernel_rfl) rfl (by kernel_rfl) (by kernel_rfl) (zab rfl rfl rfl hg5B) (t0_ (t0_ (t0_ eR))) (zal rfl rfl rfl (by omega) foc0 (Reads.sl _ _ _) Tryz.runUnderlying30 Tryz.sizeOf37) rfl (fun _ _ _ _ h=>h) ?_) | (refine za9 33 17179869183 rfl (by kernel_rfl) rfl (by kernel_rfl) (by kernel_rfl) (zab rfl rfl rfl hg5B) (t0_ (t0_ (t0_ eR))) (zal rfl rfl (Int.toNat_of_nonneg (by omega)).symm (by omega) foc0 (Reads.sl _ _ _) Tryz.runUnderlying30 Tryz.sizeOf37) rfl (fun _ _ _ _ h=>h) ?_)
        refine aP 34 34359738367 rfl rfl (zab rfl rfl rfl hg5B) (zay rfl ⟨_,_,_,Tryz.runUnderlying37,rfl,rfl,Tryz.sizeOf3,rfl⟩) rfl <| aV 35 68719476735 rfl rfl (zab rfl rfl rfl hg5B) (t0_ (t0_ (t0_ eR))) (zaz rfl rfl (by omega) foc0 (Reads.sl _ _ _) rfl rfl Tryz.isAgg3) rfl <| aP 36 137438953471 rfl rfl (zab rfl rfl rfl hg5B) (zah rfl) rfl <| aP 37 274877906943 rfl rfl (zab rfl rfl rfl hg5B) (zah rfl) rfl ?_
        first | (refine za9 38 549755813887 rfl (by kernel_rfl) rfl (by kernel_rfl) (by kernel_rfl) (zab rfl rfl rfl hg5B) (t0_ (t0_ (t0_ eR))) (zal rfl rfl rfl (by omega) foc0 (Reads.sl _ _ _) Tryz.runUnderlying30 Tryz.sizeOf37) rfl (fun _ _ _ _ h=>h) ?_) | (refine za9 38 549755813887 rfl (by kernel_rfl) rfl (by kernel_rfl) (by kernel_rfl) (zab rfl rfl rfl hg5B) (t0_ (t0_ (t0_ eR))) (zal rfl rfl (Int.toNat_of_nonneg (by omega)).symm (by omega) foc0 (Reads.sl _ _ _) Tryz.runUnderlying30 Tryz.sizeOf37) rfl (fun _ _ _ _ h=>h) ?_)
        refine aP 39 1099511627775 rfl rfl (zab rfl rfl rfl hg5B) (zay rfl ⟨_,_,_,Tryz.runUnderlying37,rfl,rfl,Tryz.sizeOf3,rfl⟩) rfl <| aV 40 2199023255551 rfl rfl (zab rfl rfl rfl hg5B) (t0_ (t0_ (t0_ eR))) (zaz rfl rfl (by omega) foc0 (Reads.sl _ _ _) rfl rfl Tryz.isAgg3) rfl <| aP 41 4398046511103 rfl rfl (zab rfl rfl rfl hg5B) (P_add rfl rfl (by omega)) rfl <| aP 42 8796093022207 rfl rfl (zab rfl rfl rfl hg5B) (zah rfl) rfl <| aP 43 17592186044415 rfl rfl (zab rfl rfl rfl hg5B) (P_gtr rfl rfl) rfl <| aN 44 35184372088831 rfl rfl (za2 rfl hg5B rfl) rfl <| aD ?_
        first | (refine zao rfl (fun hg6 => ?_) (fun hg6 => ?_)) | (refine zap rfl (fun hg6 => ?_) (fun hg6 => ?_)) | (refine zar rfl (fun hg6 => ?_) (fun hg6 => ?_))
        ·
         refine sR <| oA rfl rfl <| nT <| zaj <| zam <| zae <| zbb <| zam <| zam <| zae <| zbb <| zam <| zae <| zan (res1 Tryz.results83 rfl) <| CSpec.close () ?_ ?_ (t1_ (t1_ (eD eR)))
         ·
          refine bv (Md.rneeds_false (i:=i) (by omega) (by rw [← hgi]; simp_all) (zb9 tyapi_Target.dflt hjl) ?_).symm
          unfold Md.nT
          rw [← hgk]
          rintro (h | h)
          · exact h (by assumption)
          · omega
         · trivial
        ·
         refine za8 <| zak <| zat <| zai <| oM rfl rfl <| oP (P_add rfl rfl (by omega)) rfl <| oA rfl rfl <| za0 <| za6 (j + 1) (by first | omega | (simp only []; omega)) ?_ (by repeat (first | exact Kp.base | exact Kp.self | refine Kp.cons rfl ?_ | refine Kp.forget rfl ?_)) ?_ (t0_ (t0_ (t0_ eR)))
         ·
          refine ⟨by omega,fun hg0 hik t ht => ?_⟩
          rw [takeD tyapi_Target.dflt hjl] at ht
          rcases List.mem_append.1 ht with h | h
          · exact hjn hg0 hik t h
          · rw [List.mem_singleton] at h; subst h
            rw [← hgi] at hg0
            unfold Md.nT
            rw [← hgk]
            first | (left; simp_all; done) | (right; omega) | (exfalso; simp_all; done) | (exfalso; omega)
         · exact ⟨rfl,True.intro⟩
       ·
        refine aS 31 4294967295 rfl rfl (GY_no rfl rfl rfl hg5B) rfl <| aS 32 8589934591 rfl rfl (GY_no rfl rfl rfl hg5B) rfl <| aS 33 17179869183 rfl rfl (GY_no rfl rfl rfl hg5B) rfl <| aS 34 34359738367 rfl rfl (GY_no rfl rfl rfl hg5B) rfl <| aS 35 68719476735 rfl rfl (GY_no rfl rfl rfl hg5B) rfl <| aS 36 137438953471 rfl rfl (GY_no rfl rfl rfl hg5B) rfl <| aS 37 274877906943 rfl rfl (GY_no rfl rfl rfl hg5B) rfl <| aS 38 549755813887 rfl rfl (GY_no rfl rfl rfl hg5B) rfl <| aS 39 1099511627775 rfl rfl (GY_no rfl rfl rfl hg5B) rfl <| aS 40 2199023255551 rfl rfl (GY_no rfl rfl rfl hg5B) rfl <| aS 41 4398046511103 rfl rfl (GY_no rfl rfl rfl hg5B) rfl <| aS 42 8796093022207 rfl rfl (GY_no rfl rfl rfl hg5B) rfl <| aS 43 17592186044415 rfl rfl (GY_no rfl rfl rfl hg5B) rfl <| aN 44 35184372088831 rfl rfl (za5 rfl hg5B rfl) rfl <| aD <| zbf rfl rfl <| za8 <| zak <| zat <| zai <| oM rfl rfl <| oP (P_add rfl rfl (by omega)) rfl <| oA rfl rfl <| za0 <| za6 (j + 1) (by first | omega | (simp only []; omega)) ?_ (by repeat (first | exact Kp.base | exact Kp.self | refine Kp.cons rfl ?_ | refine Kp.forget rfl ?_)) ?_ (t0_ (t0_ (t0_ eR)))
        ·
         refine ⟨by omega,fun hg0 hik t ht => ?_⟩
         rw [takeD tyapi_Target.dflt hjl] at ht
         rcases List.mem_append.1 ht with h | h
         · exact hjn hg0 hik t h
         · rw [List.mem_singleton] at h; subst h
           rw [← hgi] at hg0
           unfold Md.nT
           rw [← hgk]
           first | (left; simp_all; done) | (right; omega) | (exfalso; simp_all; done) | (exfalso; omega)
        · exact ⟨rfl,True.intro⟩
      ·
       refine aS 15 65535 rfl rfl (GY_no rfl rfl rfl hg4B) rfl <| aS 16 131071 rfl rfl (GY_no rfl rfl rfl hg4B) rfl <| aS 17 262143 rfl rfl (GY_no rfl rfl rfl hg4B) rfl <| aS 18 524287 rfl rfl (GY_no rfl rfl rfl hg4B) rfl <| aS 19 1048575 rfl rfl (GY_no rfl rfl rfl hg4B) rfl <| aS 20 2097151 rfl rfl (GY_no rfl rfl rfl hg4B) rfl <| aS 21 4194303 rfl rfl (GY_no rfl rfl rfl hg4B) rfl <| aS 22 8388607 rfl rfl (GY_no rfl rfl rfl hg4B) rfl <| aS 23 16777215 rfl rfl (GY_no rfl rfl rfl hg4B) rfl <| aS 24 33554431 rfl rfl (GY_no rfl rfl rfl hg4B) rfl <| aS 25 67108863 rfl rfl (GY_no rfl rfl rfl hg4B) rfl <| aS 26 134217727 rfl rfl (GY_no rfl rfl rfl hg4B) rfl <| aS 27 268435455 rfl rfl (GY_no rfl rfl rfl hg4B) rfl <| aS 28 536870911 rfl rfl (GY_no rfl rfl rfl hg4B) rfl <| aN 29 1073741823 rfl rfl (za5 rfl hg4B rfl) rfl <| aN 30 2147483647 rfl rfl (zah rfl) rfl <| aS 31 4294967295 rfl rfl (GY_no rfl rfl rfl rfl) rfl <| aS 32 8589934591 rfl rfl (GY_no rfl rfl rfl rfl) rfl <| aS 33 17179869183 rfl rfl (GY_no rfl rfl rfl rfl) rfl <| aS 34 34359738367 rfl rfl (GY_no rfl rfl rfl rfl) rfl <| aS 35 68719476735 rfl rfl (GY_no rfl rfl rfl rfl) rfl <| aS 36 137438953471 rfl rfl (GY_no rfl rfl rfl rfl) rfl <| aS 37 274877906943 rfl rfl (GY_no rfl rfl rfl rfl) rfl <| aS 38 549755813887 rfl rfl (GY_no rfl rfl rfl rfl) rfl <| aS 39 1099511627775 rfl rfl (GY_no rfl rfl rfl rfl) rfl <| aS 40 2199023255551 rfl rfl (GY_no rfl rfl rfl rfl) rfl <| aS 41 4398046511103 rfl rfl (GY_no rfl rfl rfl rfl) rfl ?_
       refine aS 42 8796093022207 rfl rfl (GY_no rfl rfl rfl rfl) rfl <| aS 43 17592186044415 rfl rfl (GY_no rfl rfl rfl rfl) rfl <| aN 44 35184372088831 rfl rfl (za5 rfl rfl rfl) rfl <| aD <| zbf rfl rfl <| za8 <| zak <| zat <| zai <| oM rfl rfl <| oP (P_add rfl rfl (by omega)) rfl <| oA rfl rfl <| za0 <| za6 (j + 1) (by first | omega | (simp only []; omega)) ?_ (by repeat (first | exact Kp.base | exact Kp.self | refine Kp.cons rfl ?_ | refine Kp.forget rfl ?_)) ?_ (t0_ (t0_ (t0_ eR)))
       ·
        refine ⟨by omega,fun hg0 hik t ht => ?_⟩
        rw [takeD tyapi_Target.dflt hjl] at ht
        rcases List.mem_append.1 ht with h | h
        · exact hjn hg0 hik t h
        · rw [List.mem_singleton] at h; subst h
          rw [← hgi] at hg0
          unfold Md.nT
          rw [← hgk]
          first | (left; simp_all; done) | (right; omega) | (exfalso; simp_all; done) | (exfalso; omega)
       · exact ⟨rfl,True.intro⟩
     ·
      refine aS 10 2047 rfl rfl (GY_no rfl rfl rfl hg3B) rfl <| aS 11 4095 rfl rfl (GY_no rfl rfl rfl hg3B) rfl <| aS 12 8191 rfl rfl (GY_no rfl rfl rfl hg3B) rfl <| aN 13 16383 rfl rfl (za5 rfl hg3B rfl) rfl <| aN 14 32767 rfl rfl (zah rfl) rfl <| aS 15 65535 rfl rfl (GY_no rfl rfl rfl rfl) rfl <| aS 16 131071 rfl rfl (GY_no rfl rfl rfl rfl) rfl <| aS 17 262143 rfl rfl (GY_no rfl rfl rfl rfl) rfl <| aS 18 524287 rfl rfl (GY_no rfl rfl rfl rfl) rfl <| aS 19 1048575 rfl rfl (GY_no rfl rfl rfl rfl) rfl <| aS 20 2097151 rfl rfl (GY_no rfl rfl rfl rfl) rfl <| aS 21 4194303 rfl rfl (GY_no rfl rfl rfl rfl) rfl <| aS 22 8388607 rfl rfl (GY_no rfl rfl rfl rfl) rfl <| aS 23 16777215 rfl rfl (GY_no rfl rfl rfl rfl) rfl <| aS 24 33554431 rfl rfl (GY_no rfl rfl rfl rfl) rfl <| aS 25 67108863 rfl rfl (GY_no rfl rfl rfl rfl) rfl <| aS 26 134217727 rfl rfl (GY_no rfl rfl rfl rfl) rfl <| aS 27 268435455 rfl rfl (GY_no rfl rfl rfl rfl) rfl <| aS 28 536870911 rfl rfl (GY_no rfl rfl rfl rfl) rfl <| aN 29 1073741823 rfl rfl (za5 rfl rfl rfl) rfl <| aN 30 2147483647 rfl rfl (zah rfl) rfl <| aS 31 4294967295 rfl rfl (GY_no rfl rfl rfl rfl) rfl <| aS 32 8589934591 rfl rfl (GY_no rfl rfl rfl rfl) rfl <| aS 33 17179869183 rfl rfl (GY_no rfl rfl rfl rfl) rfl <| aS 34 34359738367 rfl rfl (GY_no rfl rfl rfl rfl) rfl <| aS 35 68719476735 rfl rfl (GY_no rfl rfl rfl rfl) rfl <| aS 36 137438953471 rfl rfl (GY_no rfl rfl rfl rfl) rfl <| aS 37 274877906943 rfl rfl (GY_no rfl rfl rfl rfl) rfl ?_
      refine aS 38 549755813887 rfl rfl (GY_no rfl rfl rfl rfl) rfl <| aS 39 1099511627775 rfl rfl (GY_no rfl rfl rfl rfl) rfl <| aS 40 2199023255551 rfl rfl (GY_no rfl rfl rfl rfl) rfl <| aS 41 4398046511103 rfl rfl (GY_no rfl rfl rfl rfl) rfl <| aS 42 8796093022207 rfl rfl (GY_no rfl rfl rfl rfl) rfl <| aS 43 17592186044415 rfl rfl (GY_no rfl rfl rfl rfl) rfl <| aN 44 35184372088831 rfl rfl (za5 rfl rfl rfl) rfl <| aD <| zbf rfl rfl <| za8 <| zak <| zat <| zai <| oM rfl rfl <| oP (P_add rfl rfl (by omega)) rfl <| oA rfl rfl <| za0 <| za6 (j + 1) (by first | omega | (simp only []; omega)) ?_ (by repeat (first | exact Kp.base | exact Kp.self | refine Kp.cons rfl ?_ | refine Kp.forget rfl ?_)) ?_ (t0_ (t0_ (t0_ eR)))
      ·
       refine ⟨by omega,fun hg0 hik t ht => ?_⟩
       rw [takeD tyapi_Target.dflt hjl] at ht
       rcases List.mem_append.1 ht with h | h
       · exact hjn hg0 hik t h
       · rw [List.mem_singleton] at h; subst h
         rw [← hgi] at hg0
         unfold Md.nT
         rw [← hgk]
         first | (left; simp_all; done) | (right; omega) | (exfalso; simp_all; done) | (exfalso; omega)
      · exact ⟨rfl,True.intro⟩
    ·
     refine zbg <| zaw <| zav <| zau <| zak <| zat <| zai <| oM rfl rfl <| oP (P_add rfl rfl (by omega)) rfl <| oA rfl rfl <| za0 <| za6 (i + 1) (by first | omega | (simp only []; omega)) ?_ (by repeat (first | exact Kp.base | exact Kp.self | refine Kp.cons rfl ?_ | refine Kp.forget rfl ?_)) ?_ (t1_ (t1_ (eD eR)))
     ·
      refine ⟨by omega,fun q hq hg0 hqk => ?_⟩
      rcases Nat.lt_or_ge q i with h | h
      · exact hno q h hg0 hqk
      · obtain rfl:q=i := by omega
        obtain rfl:j=(Md.tbl (m.at q)).length := by omega
        rw [List.take_length] at hjn
        exact hjn hg0 hqk
     · exact ⟨rfl,True.intro⟩
  ·
   refine zbg <| zaw <| zav <| zau <| zat <| sR <| oA rfl rfl <| nT <| zaj <| zan (res1 Tryz.results83 rfl) <| CSpec.close () ?_ ?_ (t0_ (t0_ eR))
   ·
    obtain rfl:i=m.dv.length := by omega
    exact bv (Md.rneeds_true hO hk hno).symm
   · trivial
theorem ztq {W:World} {b:Nat} {c:RH} {m:Md} :
    CSpec Tryz.prog W 36 [ptr b 0] [blk b 72 (zbi c m),RefR c m] (fun _:Unit=>c.tv.v) (fun _=>True) (fun _ F=>sl tyapi_Answer c.tv.v m.told::blk b 72 (zbi { c with tv := s3z } { m with told := [] })::RefR { c with tv := s3z } { m with told := [] } :: F) := by
 refine CSpec.of_body Tryz.func36 rfl Tryz.ntmps36 rfl fun F => ?_
 show CJ _ _ _ _ _ _ (_::_::F)
 refine zbd (Ent.trans (t1_ eR) zln) <| sR <| oA rfl rfl <| nT <| sR <| oM rfl rfl <| oP (zaf rfl) rfl <| oP (zaa rfl ⟨_,_,_,Tryz.runUnderlying72,rfl,rfl,Tryz.sizeOf54,rfl⟩) rfl <| oV (zag rfl foc2 rfl Tryz.isAgg54) rfl <| oA rfl rfl <| nT <| sR <| oM rfl rfl <| oP (zaf rfl) rfl <| oP (zaa rfl ⟨_,_,_,Tryz.runUnderlying72,rfl,rfl,Tryz.sizeOf54,rfl⟩) rfl <| oO <| zbh rfl rfl foc2 rfl rfl Tryz.sizeOf54 <| nT <| sR <| oM rfl rfl <| oA rfl rfl <| nT <| zaj <| zan (res1 Tryz.results36 rfl) <| CSpec.close () ?_ ?_ (t0_ (t1_ (t0_ eR)))
 · rfl
 · trivial
end Go.Proofs
set_option linter.unusedSimpArgs false
set_option maxRecDepth 20000
namespace Go.Proofs
open Go.VG
theorem zv0 {l:List api_Target} (h:chkGo l 0=0) (hl:l.length≤64) {a:Int} (ha:0≤a):∀ (N x:Nat),l.length - x < N→x≤l.length →
    zcp l a N x=some (match zfw (l.drop x) x a with | some (i,o) => .inr ((i:Int),o,true) | none => .inl ()) := by
  intro N
  induction N with
  | zero=>intro x h; omega
  | succ N ih =>
    intro x h1 h2
    simp only [zcp,zde]
    by_cases hx:x < l.length
    · rw [if_pos (by omega),dropD tgt0 hx]
      have g1 := zgx l 0 h x hx
      have g2 := zfx h x (by omega)
      have g3 := ih (x + 1) (by omega) hx
      simp only [zfw]
      have e1:inI64 ((l.getD x tgt0).Start + (l.getD x tgt0).Length)=true := in64 (by omega)
      show grd (inI64 ((l.getD x tgt0).Start + (l.getD x tgt0).Length)) _=_
      rw [e1]
      by_cases c:a < (l.getD x tgt0).Start + (l.getD x tgt0).Length
      · rw [if_pos c]
        have e2:inI64 (a - (l.getD x tgt0).Start)=true := in64 (by omega)
        refine (if_pos c).trans ?_
        show grd (inI64 (a - (l.getD x tgt0).Start)) _=_
        rw [e2]; rfl
      · rw [if_neg c]
        exact (if_neg c).trans g3
    · rw [if_neg (by omega),List.drop_eq_nil_of_le (by omega)]; rfl
theorem zpr {l:List api_Target} {a:Int} : zd7 l a=some (ze8 (tfind l a)) := by
  unfold zd7 tfind
  rw [zk7,Option.bind_some]
  by_cases h:chk l≠0∨a < 0
  · rw [if_pos h,if_pos h]; rfl
  · rw [if_neg h,if_neg h]
    obtain ⟨h1,h2⟩ := zbx (Classical.not_not.1 fun y=>h (.inl y))
    have hF := zdn
    generalize FUEL=N at hF ⊢
    rw [zv0 h2 h1 (by omega) N 0 (by omega) (by omega),List.drop_zero]
    cases zfw l 0 a with
    | none=>rfl
    | some p=>rfl
theorem hd_at {c:RH} {m:Md} {k:Nat} (hW:RefWF c m):c.l.getD k tyDv.dflt=(c.hd k,m.at k) := Prod.ext rfl (hW.at k)
namespace Md
def oI (o:Option Nat):Int := match o with | some k=>(k:Int) | none => -1
def wayI (m:Md) (f:Nat) (k:Int) (t:api_Task):Int := if k < 0 then -1 else oI (m.way f k.toNat t)
section
variable {m:Md} {n:ByteArray} {t:api_Task} {f k:Nat}
theorem wayI_find:m.wayI f (m.findI n) t=oI (m.wayN f n t) := by
  unfold wayI wayN findI
  cases h:m.find n with
  | none=>rfl
  | some k=>rw [if_neg (by simp)]; rfl
theorem wayI_nat:m.wayI f (k:Int) t=oI (m.way f k t) := by unfold wayI; rw [if_neg (by omega)]; rfl
theorem wayI_neg {j:Int} (h:j < 0):m.wayI f j t = -1 := if_pos h
theorem oI_nonneg {o:Option Nat} : (0≤oI o)↔o.isSome=true := by cases o <;> simp [oI]
theorem oI_none {o:Option Nat} (h:¬ 0≤oI o):o=none := by cases o with
  | none=>rfl
  | some k=>exact absurd (by simp [oI]) h
end
end Md
theorem zv1 {W:World} {b:Nat} {c:RH} {m:Md} {n:ByteArray} :
    CSpec Tryz.prog W 31 [ptr b 0,.string n] [blk b 72 (zbi c m),RefR c m] (fun _:RH => .int .i64 (m.ulE n)) (fun _=>True) (fun c2 F=>blk b 72 (zbi c2 (m.ulS n))::RefR c2 (m.ulS n)::F) := by
 refine CSpec.of_body Tryz.func31 rfl Tryz.ntmps31 rfl fun F => ?_
 show CJ _ _ _ _ _ _ (_::_::F)
 refine zba (zci foc1) fun hW => ?_
 have hO := hW.ok
 have hln := hW.big.len
 have hll := hW.len
 have hat := hW.at
 refine sR <| oA rfl rfl <| nT <| sR <| oM rfl rfl <| oM rfl rfl <| oO <| zaq (zgs) rfl Tryz.call65 (Dels.cons del0 (Dels.cons del0 Dels.nil)) rfl fun _ hc1=>oA rfl rfl <| nT <| zad <| sR <| oM rfl rfl <| oP (P_lss rfl rfl) rfl <| nT ?_
 first | (refine zao rfl (fun hg1 => ?_) (fun hg1 => ?_)) | (refine zap rfl (fun hg1 => ?_) (fun hg1 => ?_)) | (refine zar rfl (fun hg1 => ?_) (fun hg1 => ?_))
 ·
  refine sR <| oA rfl rfl <| nT <| zaj <| zae <| zan (res1 Tryz.results31 rfl) ?_
  have e1:m.ulE n=12∧m.ulS n=m := by
    rcases Md.devI_cases (m:=m) (n:=n) with ⟨h1,_⟩ | ⟨k,_,h2,_⟩
    · unfold Md.ulE Md.ulS; rw [h1]; exact ⟨rfl,rfl⟩
    · exfalso; omega
  rw [e1.2]
  refine CSpec.close c ?_ ?_ (t0_ (t0_ eR))
  · rw [e1.1]
  · trivial
 ·
  refine kT <| zad <| zad ?_
  obtain ⟨hdn,hdi⟩ | ⟨k,hdn,hdi,hk,hfk⟩ := Md.devI_cases (m:=m) (n:=n)
  · exfalso; omega
  rw [hdi]
  have hkl := hk.1
  refine zai <| oM rfl rfl <| oP (zaf rfl) rfl <| oP (zaa rfl ⟨_,_,_,Tryz.runUnderlying72,rfl,rfl,Tryz.sizeOf70,rfl⟩) rfl <| oV (zag rfl foc0 rfl Tryz.isAgg70) rfl <| oM rfl rfl ?_
  first | (refine RJ_op rfl (OJ_V (zal rfl rfl rfl (by first | omega | (simp only [List.length_set]; omega)) foc1 rdDv Tryz.runUnderlying70 Tryz.sizeOf91) rfl ?_)) | (refine RJ_op rfl (OJ_V (zal rfl rfl (Int.toNat_of_nonneg (by first | omega | (simp only [List.length_set]; omega))).symm (by first | omega | (simp only [List.length_set]; omega)) foc1 rdDv Tryz.runUnderlying70 Tryz.sizeOf91) rfl ?_))
  refine oP (zay rfl ⟨_,_,_,Tryz.runUnderlying91,rfl,rfl,Tryz.sizeOf4,rfl⟩) rfl <| oV (zaz rfl rfl (by first | omega | (simp only [List.length_set]; omega)) foc1 rdDv rfl rfl Tryz.isAgg4) rfl <| oP (P_not rfl) rfl <| nT ?_
  first | (refine zao rfl (fun hg2 => ?_) (fun hg2 => ?_)) | (refine zap rfl (fun hg2 => ?_) (fun hg2 => ?_)) | (refine zar rfl (fun hg2 => ?_) (fun hg2 => ?_))
  ·
   refine sR <| oA rfl rfl <| nT <| zaj <| zae <| zan (res1 Tryz.results31 rfl) ?_
   have hq:(m.at k).hn=false := by rw [← hat]; simp_all
   have e1:m.ulE n=20∧m.ulS n=m := by unfold Md.ulE Md.ulS; rw [hdn]; simp [hq]
   rw [e1.2]
   refine CSpec.close c ?_ ?_ (t0_ (t0_ eR))
   · rw [e1.1]
   · trivial
  ·
   refine kT <| zad <| zbd (Ent.trans (t1_ eR) (zc5 hkl)) <| za4 45056 (by kernel_rfl) rfl <| aN 0 1 rfl rfl (zah rfl) rfl <| aN 1 3 rfl rfl (zaf rfl) rfl <| aN 2 7 rfl rfl (zaa rfl ⟨_,_,_,Tryz.runUnderlying72,rfl,rfl,Tryz.sizeOf70,rfl⟩) rfl <| aV 3 15 rfl rfl (zac rfl) (t0_ (t0_ (t0_ (t0_ (t0_ (t0_ (t0_ (t0_ eR)))))))) (zag rfl foc7 rfl Tryz.isAgg70) rfl <| aN 4 31 rfl rfl (zah rfl) rfl <| aN 5 63 rfl rfl (zah rfl) rfl <| aN 6 127 rfl rfl (zaf rfl) rfl <| aN 7 255 rfl rfl (zaa rfl ⟨_,_,_,Tryz.runUnderlying72,rfl,rfl,Tryz.sizeOf70,rfl⟩) rfl <| aV 8 511 rfl rfl (zac rfl) (t0_ (t0_ (t0_ (t0_ (t0_ (t0_ (t0_ (t0_ eR)))))))) (zag rfl foc7 rfl Tryz.isAgg70) rfl <| aN 9 1023 rfl rfl (zah rfl) rfl ?_
   first | (refine za9 10 2047 rfl (by kernel_rfl) rfl (by kernel_rfl) (by kernel_rfl) (zac rfl) (t0_ (t0_ (t0_ (t0_ (t0_ (t0_ (t0_ (t0_ eR)))))))) (zal rfl rfl rfl (by first | omega | (simp only [List.length_set]; omega)) foc4 (Reads.sl _ _ _) Tryz.runUnderlying70 Tryz.sizeOf91) rfl (fun _ _ _ _ h=>h) ?_) | (refine za9 10 2047 rfl (by kernel_rfl) rfl (by kernel_rfl) (by kernel_rfl) (zac rfl) (t0_ (t0_ (t0_ (t0_ (t0_ (t0_ (t0_ (t0_ eR)))))))) (zal rfl rfl (Int.toNat_of_nonneg (by first | omega | (simp only [List.length_set]; omega))).symm (by first | omega | (simp only [List.length_set]; omega)) foc4 (Reads.sl _ _ _) Tryz.runUnderlying70 Tryz.sizeOf91) rfl (fun _ _ _ _ h=>h) ?_)
   refine aN 11 4095 rfl rfl (zay rfl ⟨_,_,_,Tryz.runUnderlying91,rfl,rfl,Tryz.sizeOf30,rfl⟩) rfl <| AJ_op 12 8191 rfl (by kernel_rfl) rfl (zac rfl) <| zb3 (x' := ({ (c.l.getD k tyDv.dflt).1 with nw := s3z }, { (c.l.getD k tyDv.dflt).2 with new := [] })) rfl rfl rfl (by first | omega | (simp only [List.length_set]; omega)) foc4 rfl rfl rfl Tryz.sizeOf30 <| ⟨fun h=>absurd h (by decide),?_⟩
   refine AJ_op 13 16383 rfl (by kernel_rfl) rfl (zac rfl) <| OJ_V (zal rfl rfl rfl (by simp only [List.length_set]; omega) foc4 (Reads.sl _ _ _) Tryz.runUnderlying70 Tryz.sizeOf91) rfl <| ⟨fun h=>absurd h (by decide),?_⟩
   refine aN 14 32767 rfl rfl (zay rfl ⟨_,_,_,Tryz.runUnderlying91,rfl,rfl,Tryz.sizeOf4,rfl⟩) rfl <| AJ_op 15 65535 rfl (by kernel_rfl) rfl (zac rfl) <| zb3 (x' := (((c.l.set k ({ (c.l.getD k tyDv.dflt).1 with nw := s3z }, { (c.l.getD k tyDv.dflt).2 with new := [] })).getD k tyDv.dflt).1, { ((c.l.set k ({ (c.l.getD k tyDv.dflt).1 with nw := s3z }, { (c.l.getD k tyDv.dflt).2 with new := [] })).getD k tyDv.dflt).2 with hn := false })) rfl rfl rfl (by first | omega | (simp only [List.length_set]; omega)) foc4 rfl rfl rfl Tryz.sizeOf4 <| ⟨fun h=>absurd h (by decide),?_⟩
   refine aD <| sR <| oA rfl rfl <| nT <| zaj <| zan (res1 Tryz.results31 rfl) ?_
   have hq:(m.at k).hn=true := by rw [← hat]; simp_all
   have e1:m.ulE n=0∧m.ulS n=m.set k { m.at k with new := [],hn := false } := by unfold Md.ulE Md.ulS; rw [hdn]; simp [hq]
   rw [e1.2]
   refine CSpec.close (c.put k { c.hd k with nw := s3z } { m.at k with new := [],hn := false }) ?_ ?_ (Ent.trans (fun h hh=>zb2 (t:=tyapi_Target) h hh) (Ent.trans (Ent.trans (t1_ (t1_ (t0_ (t1_ (Ent.takeC del1 (congrArg (sl tyDv _) (by simp only [stq (show k < c.l.length by omega),hd_at hW,List.set_set])) (t1_ (t1_ eR))))))) (zed (h := { c.hd k with nw := s3z }) (d := { m.at k with new := [],hn := false }) (m' := (m.set k { m.at k with new := [],hn := false })) hW hkl rfl (Md.ok_unload hO hk) (hW.big.set hkl rfl (hW.big.wl _) hW.big.tks hW.big.told hW.big.wr) rfl)) (t2_ (t0_ (eD eR)))))
   · rw [e1.1]
   · trivial
end Go.Proofs
set_option linter.unusedSimpArgs false
set_option maxRecDepth 20000
namespace Go.Proofs
open Go.VG
namespace Md
def okK (m:Md) (rk:Nat→Nat) (r:Nat) (k:Int):Prop := ∀ q:Nat,k=(q:Int)→q < m.dv.length∧(m.at q).gone=false∧rk q < r
section
variable {m:Md} {rk:Nat→Nat} {r:Nat} {k:Int} {n:ByteArray}
theorem okK_lt (h:m.okK rk r k):k≤(m.dv.length:Int) - 1∨k < 0 := by
  by_cases h0:k < 0
  · exact .inr h0
  · have := (h k.toNat (by omega)).1
    left; omega
theorem okK_find (h:∀ j,m.find n=some j→rk j < r):m.okK rk r (m.findI n) := fun q hq=>by
  rcases findI_cases (m:=m) (n:=n) with ⟨_,h2⟩ | ⟨k,h1,h2,h3,h4,_⟩
  · rw [h2] at hq; omega
  · rw [h2] at hq
    obtain rfl:k=q := by omega
    exact ⟨h3,h4,h k h1⟩
end
end Md
theorem zms {W:World} {b:Nat} {c:RH} {m:Md} {rk:Nat→Nat} {r:Nat} {k:Int} {t:api_Task} (hrk:m.Rank rk) (ih:∀ r2,r2 + 1=r → ∀ (k:Int) (t:api_Task),m.okK rk r2 k→CSpec Tryz.prog W 40 [ptr b 0,.int .i64 k,.agg #[.int .i64 t.Kind,.int .i64 t.At,.int .u64 (t.Value.toNat:Int)]] [blk b 72 (zbi c m),RefR c m] (fun _:Unit => .int .i64 (m.wayI r2 k t)) (fun _=>True) (fun _ F=>blk b 72 (zbi c m)::RefR c m::F)) (hk:m.okK rk r k) :
    CSpec Tryz.prog W 40 [ptr b 0,.int .i64 k,.agg #[.int .i64 t.Kind,.int .i64 t.At,.int .u64 (t.Value.toNat:Int)]] [blk b 72 (zbi c m),RefR c m] (fun _:Unit => .int .i64 (m.wayI r k t)) (fun _=>True) (fun _ F=>blk b 72 (zbi c m)::RefR c m::F) := by
 refine CSpec.of_body Tryz.func40 rfl Tryz.ntmps40 rfl fun F => ?_
 show CJ _ _ _ _ _ _ (_::_::F)
 refine zba (zci foc1) fun hW => ?_
 have hO := hW.ok
 have hln := hW.big.len
 have hll := hW.len
 have hat := hW.at
 have hkl := Md.okK_lt hk
 refine sR <| oO <| O_box rfl rfl rfl fun b1=>oA rfl rfl <| nT <| zad <| sR <| oM rfl rfl <| oP (P_lss rfl rfl) rfl <| oM rfl rfl ?_
 first | (refine zbp 16 rfl (fun hg1B hg1 => ?_) (fun hg1B hg1 => ?_)) | (refine zbq 16 rfl (fun hg1B hg1 => ?_) (fun hg1B hg1 => ?_)) | (refine zbr 16 rfl (fun hg1B => ?_) (fun hg1B => ?_))
 ·
  refine RJ_gn (GY_no rfl rfl rfl hg1B) rfl rfl <| RJ_gn (GY_no rfl rfl rfl hg1B) rfl rfl <| RJ_gn (GY_no rfl rfl rfl hg1B) rfl rfl <| RJ_gn (GY_no rfl rfl rfl hg1B) rfl rfl <| RJ_gn (GY_no rfl rfl rfl hg1B) rfl rfl <| RJ_gn (GY_no rfl rfl rfl hg1B) rfl rfl <| RJ_gn (GY_no rfl rfl rfl hg1B) rfl rfl <| RJ_gn (GY_no rfl rfl rfl hg1B) rfl rfl <| oP (za2 rfl hg1B rfl) rfl <| nT <| zbk rfl rfl <| sR <| oA rfl rfl <| nT <| zaj <| zae <| zan (res1 Tryz.results40 rfl) <| CSpec.close () ?_ ?_ (t1_ (t1_ (eD eR)))
  ·
   refine iv ?_
   by_cases h0:k < 0
   · exact (Md.wayI_neg h0).symm
   · obtain ⟨q,rfl⟩:∃ q:Nat,k=(q:Int) := ⟨k.toNat,by omega⟩
     have hqa := hat q
     rw [Md.wayI_nat,Md.way_base (by simp only [Int.toNat_natCast] at *; rw [← hqa]; first | assumption | (exfalso; omega))]; rfl
  · trivial
 ·
  refine gP (zab rfl rfl rfl hg1B) (zah rfl) rfl <| gP (zab rfl rfl rfl hg1B) (zaf rfl) rfl <| gP (zab rfl rfl rfl hg1B) (zaa rfl ⟨_,_,_,Tryz.runUnderlying72,rfl,rfl,Tryz.sizeOf70,rfl⟩) rfl <| gV (zab rfl rfl rfl hg1B) (zag rfl foc1 rfl Tryz.isAgg70) rfl <| gP (zab rfl rfl rfl hg1B) (zah rfl) rfl <| gV (zab rfl rfl rfl hg1B) (zal rfl rfl (Int.toNat_of_nonneg (by omega)).symm (by omega) foc2 rdDv Tryz.runUnderlying70 Tryz.sizeOf91) rfl <| gP (zab rfl rfl rfl hg1B) (zay rfl ⟨_,_,_,Tryz.runUnderlying91,rfl,rfl,Tryz.sizeOf4,rfl⟩) rfl <| gV (zab rfl rfl rfl hg1B) (zaz rfl rfl (by omega) foc2 rdDv rfl rfl Tryz.isAgg4) rfl <| oP (za5 rfl hg1B rfl) rfl <| nT ?_
  first | (refine zao rfl (fun hg2 => ?_) (fun hg2 => ?_)) | (refine zap rfl (fun hg2 => ?_) (fun hg2 => ?_)) | (refine zar rfl (fun hg2 => ?_) (fun hg2 => ?_))
  ·
   refine sR <| oA rfl rfl <| nT <| zaj <| zae <| zan (res1 Tryz.results40 rfl) <| CSpec.close () ?_ ?_ (t1_ (t1_ (eD eR)))
   ·
    refine iv ?_
    by_cases h0:k < 0
    · exact (Md.wayI_neg h0).symm
    · obtain ⟨q,rfl⟩:∃ q:Nat,k=(q:Int) := ⟨k.toNat,by omega⟩
      have hqa := hat q
      rw [Md.wayI_nat,Md.way_base (by simp only [Int.toNat_natCast] at *; rw [← hqa]; first | assumption | (exfalso; omega))]; rfl
   · trivial
  ·
   refine kT <| zad ?_
   obtain ⟨q,rfl⟩:∃ q:Nat,k=(q:Int) := ⟨k.toNat,by omega⟩
   obtain ⟨hq,hqg,hqr⟩ := hk q rfl
   have hqa := hat q
   have hqB:(m.at q).isB=false := by simp only [Int.toNat_natCast] at *; rw [← hqa]; assumption
   obtain ⟨r2,rfl⟩:∃ r2,r=r2 + 1 := ⟨r - 1,by omega⟩
   have hch := zbx (hO.chk q).1
   have hul := zen (m.at q).live
   have hqD:m.isD q := ⟨hq,hqg,hqB⟩
   refine zai <| oM rfl rfl <| oP (zaf rfl) rfl <| oP (zaa rfl ⟨_,_,_,Tryz.runUnderlying72,rfl,rfl,Tryz.sizeOf70,rfl⟩) rfl <| oV (zag rfl foc1 rfl Tryz.isAgg70) rfl <| oM rfl rfl ?_
   first | (refine RJ_op rfl (OJ_V (zal rfl rfl rfl (by omega) foc2 rdDv Tryz.runUnderlying70 Tryz.sizeOf91) rfl ?_)) | (refine RJ_op rfl (OJ_V (zal rfl rfl (Int.toNat_of_nonneg (by omega)).symm (by omega) foc2 rdDv Tryz.runUnderlying70 Tryz.sizeOf91) rfl ?_))
   refine oV (zb7 rfl rfl (by omega) foc2 rdDv rfl rfl Tryz.isAgg91 Tryz.sizeOf91) rfl <| oO <| zb1 Tryz.zeroValue91 rfl rfl fun b2=>oO <| zbj rfl rfl foc0 Tryz.sizeOf91 rfl rfl rfl <| nT <| zad <| sR <| oP (zaa rfl ⟨_,_,_,Tryz.runUnderlying91,rfl,rfl,Tryz.sizeOf4,rfl⟩) rfl <| oV (zag rfl foc0 rfl Tryz.isAgg4) rfl <| nT ?_
   first | (refine zao rfl (fun hg3 => ?_) (fun hg3 => ?_)) | (refine zap rfl (fun hg3 => ?_) (fun hg3 => ?_)) | (refine zar rfl (fun hg3 => ?_) (fun hg3 => ?_))
   ·
    refine zad ?_
    have hsq:(m.at q).susp=true := by rw [← hqa]; assumption
    refine zai <| oM rfl rfl <| oA rfl rfl <| nT <| zaj <| zae <| zan (res1 Tryz.results40 rfl) <| CSpec.close () ?_ ?_ (t2_ (t2_ (eD (eD eR))))
    · rw [Md.wayI_nat,Md.way_susp hqB hsq]; rfl
    · trivial
   ·
    refine kT <| zad <| zad ?_
    have hsf:(m.at q).susp=false := by rw [← hqa]; simp_all
    refine zai <| oP (zaa rfl ⟨_,_,_,Tryz.runUnderlying33,rfl,rfl,Tryz.sizeOf3,rfl⟩) rfl <| oV (zag rfl foc1 rfl Tryz.isAgg3) rfl <| oP (P_eql rfl rfl) rfl <| nT ?_
    first | (refine zao rfl (fun hg4 => ?_) (fun hg4 => ?_)) | (refine zap rfl (fun hg4 => ?_) (fun hg4 => ?_)) | (refine zar rfl (fun hg4 => ?_) (fun hg4 => ?_))
    ·
     refine zad ?_
     have hk3:t.Kind=3 := by assumption
     refine zai <| oP (zaa rfl ⟨_,_,_,Tryz.runUnderlying91,rfl,rfl,Tryz.sizeOf30,rfl⟩) rfl <| oV (zag rfl foc0 rfl Tryz.isAgg30) rfl <| oO <| zaq (ziz (rrLv (by omega)) (zw4 (by first | assumption | omega))) rfl Tryz.call86 (Dels.cons del3 Dels.nil) rfl fun _ hc4=>oA rfl rfl <| nT <| zad <| sR <| oA rfl rfl <| nT <| zas <| zbe (X:=Nat) [6,9,10,42,43,44,45,46,47,48,49,50,51,52,53,54,55,56,57,58,59] (fun i  => ([(9,.int .i64 (i:Nat))]:Slots)) (fun i R=>R) (fun i  => i≤(tuses (m.at q).live).length ∧ ∀ j,j < i→m.wayN r2 ((tuses (m.at q).live).getD j ByteArray.empty) t=none) (fun i  => (tuses (m.at q).live).length - i) (0) ?_ ?_ (t0_ (t0_ (t0_ (t0_ (t0_ eR))))) ?_
     · exact ⟨Nat.zero_le _,fun j h=>by omega⟩
     · exact ⟨rfl,True.intro⟩
     ·
      intro i hpf
      obtain ⟨hi,hno⟩ := hpf
      show CJ _ _ _ _ _ (([(9,.int .i64 (i:Nat))]:Slots) ++ forget _ _) (_)
      refine zad <| sR <| oM rfl rfl <| oM rfl rfl <| oV (V_len rfl foc1 (Reads.sl _ _ _) Tryz.runUnderlying59) rfl <| oP (P_lss rfl rfl) rfl <| nT ?_
      first | (refine zao rfl (fun hg5 => ?_) (fun hg5 => ?_)) | (refine zap rfl (fun hg5 => ?_) (fun hg5 => ?_)) | (refine zar rfl (fun hg5 => ?_) (fun hg5 => ?_))
      ·
       refine kT <| zad <| zas <| zad <| za4 256 (by kernel_rfl) rfl <| aN 0 1 rfl rfl (zah rfl) rfl <| aN 1 3 rfl rfl (zah rfl) rfl <| aN 2 7 rfl rfl (zah rfl) rfl <| aN 3 15 rfl rfl (zah rfl) rfl ?_
       first | (refine za9 4 31 rfl (by kernel_rfl) rfl (by kernel_rfl) (by kernel_rfl) (zac rfl) (t0_ (t0_ (t0_ (t0_ (t0_ eR))))) (zal rfl rfl rfl (by omega) foc1 (Reads.sl _ _ _) Tryz.runUnderlying59 Tryz.sizeOf9) rfl (fun _ _ _ _ h=>h) ?_) | (refine za9 4 31 rfl (by kernel_rfl) rfl (by kernel_rfl) (by kernel_rfl) (zac rfl) (t0_ (t0_ (t0_ (t0_ (t0_ eR))))) (zal rfl rfl (Int.toNat_of_nonneg (by omega)).symm (by omega) foc1 (Reads.sl _ _ _) Tryz.runUnderlying59 Tryz.sizeOf9) rfl (fun _ _ _ _ h=>h) ?_)
       refine aV 5 63 rfl rfl (zac rfl) (t0_ (t0_ (t0_ (t0_ (t0_ eR))))) (zaz rfl rfl (by omega) foc1 (Reads.sl _ _ _) rfl rfl Tryz.isAgg9) rfl <| aV 7 191 rfl rfl (zac rfl) (t0_ (t0_ (t0_ (t0_ (t0_ eR))))) (zbo rfl foc3 Tryz.isAgg33 Tryz.sizeOf33 rfl rfl) rfl <| AJ_op 6 255 rfl (by kernel_rfl) rfl (zac rfl) <| zaq (zew) rfl Tryz.call39 (Dels.cons del4 (Dels.cons del0 Dels.nil)) rfl fun _ hc5=>⟨fun _=>(t1_ (t1_ (t1_ (t1_ (t0_ eR))))),?_⟩
       refine AJ_op 8 511 rfl (by kernel_rfl) rfl (zac rfl) <| zaq ((ih r2 rfl _ t (Md.okK_find (zfg hrk hqD hqr (zm3 (by omega)))))) rfl Tryz.call40 (Dels.cons del0 (Dels.cons del0 Dels.nil)) rfl fun _ hc6=>⟨fun h=>absurd h (by decide),?_⟩
       refine aN 9 1023 rfl rfl (zbc rfl) rfl <| aD <| sR <| oM rfl rfl <| oP (P_geq rfl rfl) rfl <| nT ?_
       first | (refine zao rfl (fun hg6 => ?_) (fun hg6 => ?_)) | (refine zap rfl (fun hg6 => ?_) (fun hg6 => ?_)) | (refine zar rfl (fun hg6 => ?_) (fun hg6 => ?_))
       ·
        refine zad ?_
        have hyi:i < (tuses (m.at q).live).length := by omega
        refine zai <| oM rfl rfl <| oA rfl rfl <| nT <| zaj <| zam <| zae <| zbb <| zam <| zae <| zae <| zan (res1 Tryz.results40 rfl) <| CSpec.close () ?_ ?_ (t0_ (t0_ (eD (eD (eD eR)))))
        ·
         refine iv ?_
         rw [Md.wayI_nat,Md.wayI_find,Md.way_flush hqB hsf hk3,zsr hyi hno (Md.oI_nonneg.1 (by rw [← Md.wayI_find]; assumption))]
        · trivial
       ·
        refine za8 <| zak <| zat <| zai <| oM rfl rfl <| oP (P_add rfl rfl (by omega)) rfl <| oA rfl rfl <| za0 <| za6 (i + 1) (by first | omega | (simp only []; omega)) ?_ (by repeat (first | exact Kp.base | exact Kp.self | refine Kp.cons rfl ?_ | refine Kp.forget rfl ?_)) ?_ (t1_ (t1_ (t1_ (t1_ (t0_ eR)))))
        ·
         refine ⟨by omega,fun j hj => ?_⟩
         rcases Nat.lt_or_ge j i with h | h
         · exact hno j h
         · obtain rfl:j=i := by omega
           refine Md.oI_none ?_
           rw [← Md.wayI_find]
           assumption
        · exact ⟨rfl,True.intro⟩
      ·
       refine zbg <| zaw <| zav <| zau <| zat <| sR <| oA rfl rfl <| nT <| zaj <| zae <| zan (res1 Tryz.results40 rfl) <| CSpec.close () ?_ ?_ (t4_ (t0_ (eD (eD (eD eR)))))
       ·
        obtain rfl:i=(tuses (m.at q).live).length := by omega
        rw [Md.wayI_nat,Md.way_flush hqB hsf hk3,zss hno]; rfl
       · trivial
    ·
     refine kT <| zad ?_
     have hk3:t.Kind≠3 := by assumption
     refine zai <| oP (zaa rfl ⟨_,_,_,Tryz.runUnderlying91,rfl,rfl,Tryz.sizeOf30,rfl⟩) rfl <| oV (zag rfl foc0 rfl Tryz.isAgg30) rfl <| oP (zaa rfl ⟨_,_,_,Tryz.runUnderlying33,rfl,rfl,Tryz.sizeOf3,rfl⟩) rfl <| oV (zag rfl foc1 rfl Tryz.isAgg3) rfl <| oO <| zaq (zf5 (rrLv (by omega)) zpr) rfl Tryz.call87 (Dels.cons del3 Dels.nil) rfl fun _ hc7=>oM rfl rfl <| oP (za1 rfl rfl) rfl <| oP (za1 rfl rfl) rfl <| oP (za1 rfl rfl) rfl <| oA rfl rfl <| oA rfl rfl <| oA rfl rfl <| nT <| zad <| sR <| oM rfl rfl <| oP (P_not rfl) rfl <| oM rfl rfl ?_
     first | (refine zbp 71 rfl (fun hg7B hg7 => ?_) (fun hg7B hg7 => ?_)) | (refine zbq 71 rfl (fun hg7B hg7 => ?_) (fun hg7B hg7 => ?_)) | (refine zbr 71 rfl (fun hg7B => ?_) (fun hg7B => ?_))
     ·
      refine RJ_gn (GY_no rfl rfl rfl hg7B) rfl rfl <| RJ_gn (GY_no rfl rfl rfl hg7B) rfl rfl <| RJ_gn (GY_no rfl rfl rfl hg7B) rfl rfl <| RJ_gn (GY_no rfl rfl rfl hg7B) rfl rfl <| RJ_gn (GY_no rfl rfl rfl hg7B) rfl rfl <| RJ_gn (GY_no rfl rfl rfl hg7B) rfl rfl <| RJ_gn (GY_no rfl rfl rfl hg7B) rfl rfl <| oP (za2 rfl hg7B rfl) rfl <| nT <| zbk rfl rfl <| sR <| oA rfl rfl <| nT <| zaj <| zae <| zan (res1 Tryz.results40 rfl) <| CSpec.close () ?_ ?_ (t3_ (t0_ (eD (eD eR))))
      · rw [Md.wayI_nat,Md.way_out hqB hsf hk3 (Md.tfind_no (by simpa using hg7B))]; rfl
      · trivial
     ·
      obtain ⟨i,o,hf,hi,ho1,ho2⟩ := zld (hg7B) (hO.chk q).1
      refine gP (zab rfl rfl rfl hg7B) (zaa rfl ⟨_,_,_,Tryz.runUnderlying91,rfl,rfl,Tryz.sizeOf30,rfl⟩) rfl <| gV (zab rfl rfl rfl hg7B) (zag rfl foc1 rfl Tryz.isAgg30) rfl <| gP (zab rfl rfl rfl hg7B) (zah rfl) rfl <| gV (zab rfl rfl rfl hg7B) (zal rfl rfl (by rw [hf]; rfl) (by exact hi) foc0 (rrLv (by omega)) Tryz.runUnderlying30 Tryz.sizeOf37) rfl <| gP (zab rfl rfl rfl hg7B) (zay rfl ⟨_,_,_,Tryz.runUnderlying37,rfl,rfl,Tryz.sizeOf9,rfl⟩) rfl <| gV (zab rfl rfl rfl hg7B) (zaz rfl rfl (by omega) foc0 (rrLv (by omega)) rfl rfl Tryz.isAgg9) rfl <| gP (zab rfl rfl rfl hg7B) (zcj rfl rfl Tryz.underlying9) rfl <| oP (za5 rfl hg7B rfl) rfl <| nT ?_
      first | (refine zao rfl (fun hg8 => ?_) (fun hg8 => ?_)) | (refine zap rfl (fun hg8 => ?_) (fun hg8 => ?_)) | (refine zar rfl (fun hg8 => ?_) (fun hg8 => ?_))
      ·
       refine sR <| oA rfl rfl <| nT <| zaj <| zae <| zan (res1 Tryz.results40 rfl) <| CSpec.close () ?_ ?_ (t3_ (t0_ (eD (eD eR))))
       · rw [Md.wayI_nat,Md.way_in hqB hsf hk3 hf,if_pos (by assumption)]; rfl
       · trivial
      ·
       refine kT <| zad ?_
       rw [hf]
       have hfb := zej (hO.chk q).1 (zb9 tgt0 hi)
       refine zai <| oP (zaa rfl ⟨_,_,_,Tryz.runUnderlying91,rfl,rfl,Tryz.sizeOf30,rfl⟩) rfl <| oV (zag rfl foc1 rfl Tryz.isAgg30) rfl <| oM rfl rfl <| oV (zal rfl rfl rfl (by exact hi) foc0 (rrLv (by omega)) Tryz.runUnderlying30 Tryz.sizeOf37) rfl <| oP (zay rfl ⟨_,_,_,Tryz.runUnderlying37,rfl,rfl,Tryz.sizeOf3,rfl⟩) rfl <| oV (zaz rfl rfl (by omega) foc0 (rrLv (by omega)) rfl rfl Tryz.isAgg3) rfl <| oM rfl rfl <| oP (P_add rfl rfl (by show -9223372036854775808≤((m.at q).live.getD i tgt0).Offset + o∧((m.at q).live.getD i tgt0).Offset + o≤9223372036854775807; omega)) rfl <| oP (zaa rfl ⟨_,_,_,Tryz.runUnderlying33,rfl,rfl,Tryz.sizeOf3,rfl⟩) rfl <| oO <| zbh rfl rfl foc2 rfl rfl Tryz.sizeOf3 <| nT <| zad <| za4 1024 (by kernel_rfl) rfl <| aN 0 1 rfl rfl (zah rfl) rfl <| aN 1 3 rfl rfl (zah rfl) rfl <| aN 2 7 rfl rfl (zaa rfl ⟨_,_,_,Tryz.runUnderlying91,rfl,rfl,Tryz.sizeOf30,rfl⟩) rfl <| aV 3 15 rfl rfl (zac rfl) (t0_ (t0_ (t0_ (t0_ eR)))) (zag rfl foc1 rfl Tryz.isAgg30) rfl <| aN 4 31 rfl rfl (zah rfl) rfl <| aV 5 63 rfl rfl (zac rfl) (t0_ (t0_ (t0_ (t0_ eR)))) (zal rfl rfl rfl (by exact hi) foc0 (rrLv (by omega)) Tryz.runUnderlying30 Tryz.sizeOf37) rfl <| aN 6 127 rfl rfl (zay rfl ⟨_,_,_,Tryz.runUnderlying37,rfl,rfl,Tryz.sizeOf9,rfl⟩) rfl ?_
       refine aV 7 255 rfl rfl (zac rfl) (t0_ (t0_ (t0_ (t0_ eR)))) (zaz rfl rfl (by omega) foc0 (rrLv (by omega)) rfl rfl Tryz.isAgg9) rfl <| aV 9 767 rfl rfl (zac rfl) (t0_ (t0_ (t0_ (t0_ eR)))) (zbo rfl foc2 Tryz.isAgg33 Tryz.sizeOf33 rfl rfl) rfl <| AJ_op 8 1023 rfl (by kernel_rfl) rfl (zac rfl) <| zaq (zew) rfl Tryz.call39 (Dels.cons del3 (Dels.cons del0 Dels.nil)) rfl fun _ hc8=>⟨fun _=>(t1_ (t1_ (t1_ (t0_ eR)))),?_⟩
       refine AJ_op 10 2047 rfl (by kernel_rfl) rfl (zac rfl) <| zaq ((ih r2 rfl _ { t with At := ((m.at q).live.getD i tgt0).Offset + o } (Md.okK_find (zfg hrk hqD hqr ⟨_,List.mem_append.2 (.inl (zb9 tgt0 hi)),rfl⟩)))) rfl Tryz.call40 (Dels.cons del0 (Dels.cons del0 Dels.nil)) rfl fun _ hc9=>⟨fun h=>absurd h (by decide),?_⟩
       refine aN 11 4095 rfl rfl (zbc rfl) rfl <| aD <| zaj <| zan (res1 Tryz.results40 rfl) <| CSpec.close () ?_ ?_ (t0_ (t0_ (eD (eD eR))))
       ·
        refine iv ?_
        rw [Md.wayI_nat,Md.wayI_find,Md.way_in hqB hsf hk3 hf,if_neg (by assumption)]
       · trivial
end Go.Proofs
