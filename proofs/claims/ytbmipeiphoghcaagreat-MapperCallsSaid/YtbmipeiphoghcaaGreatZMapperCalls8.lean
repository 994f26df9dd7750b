/- MapperCalls, part 8 of the proof: CRf11, PMapN, CMap21, CRf12, CMap22, CBeg0, CBeg1, CRf13, CLaw1, CLaw2, CLaw3. -/
import Derived.WalkKit
import Derived.Orders
import Derived.RangeFuncLeaves
import Derived.RangeFuncCalls
import Derived.TacticsIn
import Derived.Handy
import Derived.OrdersHeld
import Derived.OrdersIn
import Derived.Below
import Derived.OpenShut
import Derived.Deep.Slices
import Derived.Scope
import Derived.RangeFuncRecord
import Derived.ChangeKeysEq
import Derived.Laws.BytesArg
import Derived.KernelRfl
import Derived.Maps.RangeRun
import Derived.LaidEql
import Derived.ProofKit
import Derived.ShutString
import Derived.ChangeOld
import Derived.Test.YtbmipeiphoghcaaGreatChecked
import Derived.Test.YtbmipeiphoghcaaGreatRows
import Derived.Test.YtbmipeiphoghcaaGreatZMapperCalls7
set_option linter.unusedSimpArgs false
set_option maxRecDepth 20000
namespace Go.Proofs
open Go.VG
theorem zp4:∀ w,(Instr.build 98 (#[]:Array (Nat × Value))).run Tryz.prog w = .ok (.agg #[.string ByteArray.empty,.bool false,.slice none 0 0,.slice none 0 0,.bool false,.bool false,.int .i64 0,.int .i64 0]) w := fun w=>by kernel_rfl
theorem zh0 (v0:ByteArray) (v1:Bool) (v2:(Option Addr)) (v3:Nat) (v4:Nat) (v5:(Option Addr)) (v6:Nat) (v7:Nat) (v8:Bool) (v9:Bool) (v10:Int):∀ w,(Instr.build 98 (#[(0,.string v0),(1,.bool v1),(2,.slice v2 v3 v4),(3,.slice v5 v6 v7),(4,.bool v8),(5,.bool v9),(6,.int .i64 v10)]:Array (Nat × Value))).run Tryz.prog w = .ok (.agg #[.string v0,.bool v1,.slice v2 v3 v4,.slice v5 v6 v7,.bool v8,.bool v9,.int .i64 v10,.int .i64 0]) w := fun w=>by kernel_rfl
namespace Md
def usT (m:Md) (n:ByteArray) (i:Nat):Nat := (m.dv.take i).countP fun d=>usesD d n
section
variable {m:Md} {n:ByteArray} {i k:Nat}
theorem zs1 (hi:i < m.dv.length):m.dv.take (i + 1)=m.dv.take i ++ [m.at i] := by rw [takeD Dv.z hi]; rfl
theorem usT_yes (hi:i < m.dv.length) (h:usesD (m.at i) n=true):m.usT n (i + 1)=m.usT n i + 1 := by
  unfold usT; rw [zs1 hi,List.countP_append,List.countP_cons,h]; rfl
theorem usT_no (hi:i < m.dv.length) (h:usesD (m.at i) n=false):m.usT n (i + 1)=m.usT n i := by
  unfold usT; rw [zs1 hi,List.countP_append,List.countP_cons,h]; rfl
theorem usT_end:m.usT n m.dv.length=m.users n := by unfold usT users; rw [List.take_length]
theorem usT_le:m.usT n i≤i := by
  unfold usT
  exact Nat.le_trans (List.countP_le_length) (by rw [List.length_take]; omega)
theorem users_zero (h:∀ q,q < m.dv.length→usesD (m.at q) n=false):m.users n=0 := by
  unfold users
  rw [List.countP_eq_zero]
  intro d hd
  obtain ⟨q,hq,rfl⟩ := List.getElem_of_mem hd
  have := h q hq
  have e:m.dv[q]=m.at q := by simp [Md.at,List.getD,hq]
  rw [e,this]; decide
theorem users_pos (hi:i < m.dv.length) (h:usesD (m.at i) n=true):0 < m.users n := by
  unfold users
  rw [List.countP_pos_iff]
  exact ⟨m.at i,by simp [Md.at,List.getD,hi],h⟩
theorem busy_no (hk:k < m.dv.length) (h:∀ q,q < m.dv.length → ∀ j,j < (m.at q).wait.length→q≠k∧((m.at q).wait.getD j Wt.z).gv≠k):m.busy k=false := by
  unfold busy
  rw [Bool.or_eq_false_iff]
  refine ⟨decide_eq_false fun hw => ?_,?_⟩
  · cases hl:(m.at k).wait with
    | nil=>exact hw hl
    | cons a l=>exact (h k hk 0 (by rw [hl]; simp)).1 rfl
  · rw [Bool.eq_false_iff]
    intro h1
    obtain ⟨d,h2,h3⟩ := List.any_eq_true.1 h1
    obtain ⟨q,hq,rfl⟩ := List.getElem_of_mem h2
    have e:m.dv[q]=m.at q := by simp [Md.at,List.getD,hq]
    rw [e] at h3
    obtain ⟨w,h4,h5⟩ := List.any_eq_true.1 h3
    obtain ⟨j,hj,rfl⟩ := List.getElem_of_mem h4
    have := (h q hq j hj).2
    simp [List.getD,hj] at this
    exact this (of_decide_eq_true h5)
theorem busy_yes (hi:i < m.dv.length) {j:Nat} (hj:j < (m.at i).wait.length) (h:i=k∨((m.at i).wait.getD j Wt.z).gv=k):m.busy k=true := by
  unfold busy
  rw [Bool.or_eq_true]
  rcases h with h | h
  · left
    subst h
    exact decide_eq_true fun e=>by rw [e] at hj; exact absurd hj (by simp)
  · right
    exact List.any_eq_true.2 ⟨m.at i,by simp [Md.at,List.getD,hi],List.any_eq_true.2 ⟨_,zb9 Wt.z hj,decide_eq_true h⟩⟩
theorem usesD_at (d:Dv):usesD d n=(!d.gone && (nam d.live n || nam d.new n)) := rfl
end
end Md
theorem zv4 {W:World} {b:Nat} {c:RH} {m:Md} {n:ByteArray} :
    CSpec Tryz.prog W 45 [ptr b 0,.string n] [blk b 72 (zbi c m),RefR c m] (fun x:Sl3 × Sl3 => .tuple #[stV m n x.1 x.2,.int .i64 (m.stE n)]) (fun x=>Reads (RefR c m) tyapi_Target x.1.v (m.stD n).live∧Reads (RefR c m) tyapi_Target x.2.v (m.stD n).new) (fun _ F=>blk b 72 (zbi c m)::RefR c m::F) := by
 refine CSpec.of_body Tryz.func45 rfl Tryz.ntmps45 rfl fun F => ?_
 show CJ _ _ _ _ _ _ (_::_::F)
 refine zba (zci foc1) fun hW => ?_
 have hO := hW.ok
 have hln := hW.big.len
 have hll := hW.len
 have hat := hW.at
 refine sR <| oO <| zb1 Tryz.zeroValue98 rfl rfl fun b1=>oA rfl rfl <| nT <| sR <| oM rfl rfl <| oM rfl rfl <| oO <| zaq (zgs) rfl Tryz.call65 (Dels.cons del1 (Dels.cons del1 Dels.nil)) rfl fun _ hc2=>oA rfl rfl <| nT <| zad <| sR <| oM rfl rfl <| oP (P_lss rfl rfl) rfl <| nT ?_
 first | (refine zao rfl (fun hg1 => ?_) (fun hg1 => ?_)) | (refine zap rfl (fun hg1 => ?_) (fun hg1 => ?_)) | (refine zar rfl (fun hg1 => ?_) (fun hg1 => ?_))
 ·
  refine sR <| oP (zbm rfl (zp4)) rfl <| oO <| zbj rfl rfl foc2 Tryz.sizeOf98 rfl rfl rfl <| oA rfl rfl <| nT <| zaj <| zae <| zan (resA2 Tryz.results45 (zb8 rfl foc2 Tryz.isAgg98 Tryz.sizeOf98 rfl rfl) (zcy rfl)) ?_
  obtain ⟨e1,e2,e3,e4⟩ := Md.st_none (n:=n) (m:=m) (by rcases Md.devI_cases (m:=m) (n:=n) with ⟨h1,_⟩ | ⟨k,_,h2,_⟩; exact h1; exfalso; omega)
  refine CSpec.close ⟨s3z,s3z⟩ ?_ ?_ (t0_ (t0_ (eD eR)))
  ·
   rw [e1]
   unfold stV
   rw [e2,e3,e4]
   rfl
  ·
   rw [e2]
   exact ⟨fun h hA => .inl ⟨rfl,rfl⟩,fun h hA => .inl ⟨rfl,rfl⟩⟩
 ·
  refine kT <| zad ?_
  obtain ⟨hdn,hdi⟩ | ⟨k,hdn,hdi,hk,hfk⟩ := Md.devI_cases (m:=m) (n:=n)
  · exfalso; omega
  rw [hdi]
  have hkl := hk.1
  refine zai <| oM rfl rfl <| oP (zaf rfl) rfl <| oP (zaa rfl ⟨_,_,_,Tryz.runUnderlying72,rfl,rfl,Tryz.sizeOf70,rfl⟩) rfl <| oV (zag rfl foc0 rfl Tryz.isAgg70) rfl <| oM rfl rfl ?_
  first | (refine RJ_op rfl (OJ_V (zal rfl rfl rfl (by first | omega | (simp only [List.length_set]; omega)) foc1 rdDv Tryz.runUnderlying70 Tryz.sizeOf91) rfl ?_)) | (refine RJ_op rfl (OJ_V (zal rfl rfl (Int.toNat_of_nonneg (by first | omega | (simp only [List.length_set]; omega))).symm (by first | omega | (simp only [List.length_set]; omega)) foc1 rdDv Tryz.runUnderlying70 Tryz.sizeOf91) rfl ?_))
  refine oV (zb7 rfl rfl (by first | omega | (simp only [List.length_set]; omega)) foc1 rdDv rfl rfl Tryz.isAgg91 Tryz.sizeOf91) rfl <| oO <| zb1 Tryz.zeroValue91 rfl rfl fun b3=>oO <| zbj rfl rfl foc0 Tryz.sizeOf91 rfl rfl rfl <| nT <| sR <| oP (zaa rfl ⟨_,_,_,Tryz.runUnderlying91,rfl,rfl,Tryz.sizeOf9,rfl⟩) rfl <| oV (zag rfl foc0 rfl Tryz.isAgg9) rfl <| oP (zaa rfl ⟨_,_,_,Tryz.runUnderlying91,rfl,rfl,Tryz.sizeOf4,rfl⟩) rfl <| oV (zag rfl foc0 rfl Tryz.isAgg4) rfl <| oP (zaa rfl ⟨_,_,_,Tryz.runUnderlying91,rfl,rfl,Tryz.sizeOf30,rfl⟩) rfl <| oV (zag rfl foc0 rfl Tryz.isAgg30) rfl <| oP (zaa rfl ⟨_,_,_,Tryz.runUnderlying91,rfl,rfl,Tryz.sizeOf30,rfl⟩) rfl <| oV (zag rfl foc0 rfl Tryz.isAgg30) rfl <| oP (zaa rfl ⟨_,_,_,Tryz.runUnderlying91,rfl,rfl,Tryz.sizeOf4,rfl⟩) rfl <| oV (zag rfl foc0 rfl Tryz.isAgg4) rfl <| oP (zaa rfl ⟨_,_,_,Tryz.runUnderlying91,rfl,rfl,Tryz.sizeOf4,rfl⟩) rfl <| oV (zag rfl foc0 rfl Tryz.isAgg4) rfl <| oP (zaa rfl ⟨_,_,_,Tryz.runUnderlying91,rfl,rfl,Tryz.sizeOf89,rfl⟩) rfl <| oV (zag rfl foc0 rfl Tryz.isAgg89) rfl <| oV (V_len rfl foc2 (rrWt (by omega)) Tryz.runUnderlying89) rfl <| oP (zbm rfl (zh0 _ _ _ _ _ _ _ _ _ _ _)) rfl <| oO <| zb1 Tryz.zeroValue98 rfl rfl fun b4=>oO <| zbj rfl rfl foc0 Tryz.sizeOf98 rfl rfl rfl <| nT <| zad <| sR <| oA rfl rfl <| nT <| zas ?_
  refine zbe (X:=Nat) [9,10,40,41,42,43,44,45,46,47,48,49,50,51,52,53,54,55,56,57,58,59,60,61,62,63,64,65,66,67,68,69,70,71,72,73,74] (fun i  => ([(9,.int .i64 (i:Nat))]:Slots)) (fun i R=>blk b4 98 [.string (c.l.getD k tyDv.dflt).2.name,.bool (c.l.getD k tyDv.dflt).2.susp,(c.l.getD k tyDv.dflt).1.lv.v,(c.l.getD k tyDv.dflt).1.nw.v,.bool (c.l.getD k tyDv.dflt).2.hl,.bool (c.l.getD k tyDv.dflt).2.hn,.int .i64 ((m.at k).wait.length:Int),.int .i64 ((m.usT n i:Nat):Int)]::R) (fun i  => i≤m.dv.length) (fun i  => m.dv.length - i) (0) ?_ ?_ (Ent.takeC del0 rfl (t0_ (t0_ (t0_ (t0_ eR))))) ?_
  · exact Nat.zero_le _
  · exact ⟨rfl,True.intro⟩
  ·
   intro i hi
   show CJ _ _ _ _ _ (([(9,.int .i64 (i:Nat))]:Slots) ++ forget _ _) (blk b4 98 [.string (c.l.getD k tyDv.dflt).2.name,.bool (c.l.getD k tyDv.dflt).2.susp,(c.l.getD k tyDv.dflt).1.lv.v,(c.l.getD k tyDv.dflt).1.nw.v,.bool (c.l.getD k tyDv.dflt).2.hl,.bool (c.l.getD k tyDv.dflt).2.hn,.int .i64 ((m.at k).wait.length:Int),.int .i64 ((m.usT n i:Nat):Int)]::_)
   have hul := Md.usT_le (m:=m) (n:=n) (i:=i)
   refine zad <| sR <| oM rfl rfl <| oM rfl rfl <| oP (zaf rfl) rfl <| oP (zaa rfl ⟨_,_,_,Tryz.runUnderlying72,rfl,rfl,Tryz.sizeOf70,rfl⟩) rfl <| oV (zag rfl foc2 rfl Tryz.isAgg70) rfl <| oV (V_len rfl foc3 rdDv Tryz.runUnderlying70) rfl <| oP (P_lss rfl rfl) rfl <| nT ?_
   first | (refine zao rfl (fun hg2 => ?_) (fun hg2 => ?_)) | (refine zap rfl (fun hg2 => ?_) (fun hg2 => ?_)) | (refine zar rfl (fun hg2 => ?_) (fun hg2 => ?_))
   ·
    refine kT <| zad <| zas <| zad ?_
    have hil:i < m.dv.length := by omega
    have hlv := (zbx (hO.chk i).1).1
    have hnw := (zbx (hO.chk i).2).1
    have hai := hat i
    refine zai <| oM rfl rfl <| oP (zaf rfl) rfl <| oP (zaa rfl ⟨_,_,_,Tryz.runUnderlying72,rfl,rfl,Tryz.sizeOf70,rfl⟩) rfl <| oV (zag rfl foc2 rfl Tryz.isAgg70) rfl <| oM rfl rfl ?_
    first | (refine RJ_op rfl (OJ_V (zal rfl rfl rfl (by first | omega | (simp only [List.length_set]; omega)) foc3 rdDv Tryz.runUnderlying70 Tryz.sizeOf91) rfl ?_)) | (refine RJ_op rfl (OJ_V (zal rfl rfl (Int.toNat_of_nonneg (by first | omega | (simp only [List.length_set]; omega))).symm (by first | omega | (simp only [List.length_set]; omega)) foc3 rdDv Tryz.runUnderlying70 Tryz.sizeOf91) rfl ?_))
    refine oV (zb7 rfl rfl (by first | omega | (simp only [List.length_set]; omega)) foc3 rdDv rfl rfl Tryz.isAgg91 Tryz.sizeOf91) rfl <| oO <| zb1 Tryz.zeroValue91 rfl rfl fun b5=>oO <| zbj rfl rfl foc0 Tryz.sizeOf91 rfl rfl rfl <| nT <| sR <| oP (zaa rfl ⟨_,_,_,Tryz.runUnderlying91,rfl,rfl,Tryz.sizeOf4,rfl⟩) rfl <| oV (zag rfl foc0 rfl Tryz.isAgg4) rfl <| oP (P_not rfl) rfl <| oM rfl rfl ?_
    first | (refine zbp 59 rfl (fun hg3B hg3 => ?_) (fun hg3B hg3 => ?_)) | (refine zbq 59 rfl (fun hg3B hg3 => ?_) (fun hg3B hg3 => ?_)) | (refine zbr 59 rfl (fun hg3B => ?_) (fun hg3B => ?_))
    ·
     refine gP (zab rfl rfl rfl hg3B) (zaa rfl ⟨_,_,_,Tryz.runUnderlying91,rfl,rfl,Tryz.sizeOf30,rfl⟩) rfl <| gV (zab rfl rfl rfl hg3B) (zag rfl foc0 rfl Tryz.isAgg30) rfl <| gP (zab rfl rfl rfl hg3B) (zah rfl) rfl <| RJ_gy (zab rfl rfl rfl hg3B) <| zaq (zdv (rrLv (by omega)) (zl0 (by first | assumption | omega))) rfl Tryz.call61 (Dels.cons del4 Dels.nil) rfl fun _ hc6=>gP (zab rfl rfl rfl hg3B) (zah rfl) rfl ?_
     first | (refine zbp 64 rfl (fun hg4B hg4 => ?_) (fun hg4B hg4 => ?_)) | (refine zbq 64 rfl (fun hg4B hg4 => ?_) (fun hg4B hg4 => ?_)) | (refine zbr 64 rfl (fun hg4B => ?_) (fun hg4B => ?_))
     ·
      refine RJ_gn (GY_no rfl rfl rfl hg4B) rfl rfl <| RJ_gn (GY_no rfl rfl rfl hg4B) rfl rfl <| RJ_gn (GY_no rfl rfl rfl hg4B) rfl rfl <| RJ_gn (GY_no rfl rfl rfl hg4B) rfl rfl <| gP (zab rfl rfl rfl hg3B) (za2 rfl hg4B rfl) rfl <| oP (za2 rfl hg3B rfl) rfl <| nT <| zbk rfl rfl <| zai <| oP (zaa rfl ⟨_,_,_,Tryz.runUnderlying98,rfl,rfl,Tryz.sizeOf3,rfl⟩) rfl <| oV (zag rfl foc2 rfl Tryz.isAgg3) rfl <| oP (P_add rfl rfl (by first | omega | (simp only [List.length_set]; omega))) rfl <| oP (zaa rfl ⟨_,_,_,Tryz.runUnderlying98,rfl,rfl,Tryz.sizeOf3,rfl⟩) rfl <| oO <| zbh rfl rfl foc2 rfl rfl Tryz.sizeOf3 <| za0 <| zak <| zat <| zai <| oM rfl rfl <| oP (P_add rfl rfl (by first | omega | (simp only [List.length_set]; omega))) rfl <| oA rfl rfl <| za0 <| za6 (i + 1) (by show m.dv.length - (i + 1) < m.dv.length - i; omega) ?_ (by repeat (first | exact Kp.base | exact Kp.self | refine Kp.cons rfl ?_ | refine Kp.forget rfl ?_)) ?_ (Ent.takeC del2 (by rw [Md.usT_yes hil (by rw [Md.usesD_at, ← hai]; rw [← hai] at *; simp_all)] <;> rfl) (t2_ (t2_ (t0_ (t1_ (eD eR))))))
      · omega
      · exact ⟨rfl,True.intro⟩
     ·
      refine gP (zab rfl rfl rfl hg4B) (zaa rfl ⟨_,_,_,Tryz.runUnderlying91,rfl,rfl,Tryz.sizeOf30,rfl⟩) rfl <| gV (zab rfl rfl rfl hg4B) (zag rfl foc1 rfl Tryz.isAgg30) rfl <| gP (zab rfl rfl rfl hg4B) (zah rfl) rfl <| RJ_gy (zab rfl rfl rfl hg4B) <| zaq (zdv (rrNw (by omega)) (zl0 (by first | assumption | omega))) rfl Tryz.call61 (Dels.cons del0 Dels.nil) rfl fun _ hc7=>gP (zab rfl rfl rfl hg3B) (za5 rfl hg4B rfl) rfl <| oP (za2 rfl hg3B rfl) rfl <| nT ?_
      first | (refine zao rfl (fun hg5 => ?_) (fun hg5 => ?_)) | (refine zap rfl (fun hg5 => ?_) (fun hg5 => ?_)) | (refine zar rfl (fun hg5 => ?_) (fun hg5 => ?_))
      ·
       refine zai <| oP (zaa rfl ⟨_,_,_,Tryz.runUnderlying98,rfl,rfl,Tryz.sizeOf3,rfl⟩) rfl <| oV (zag rfl foc2 rfl Tryz.isAgg3) rfl <| oP (P_add rfl rfl (by first | omega | (simp only [List.length_set]; omega))) rfl <| oP (zaa rfl ⟨_,_,_,Tryz.runUnderlying98,rfl,rfl,Tryz.sizeOf3,rfl⟩) rfl <| oO <| zbh rfl rfl foc2 rfl rfl Tryz.sizeOf3 <| za0 <| zak <| zat <| zai <| oM rfl rfl <| oP (P_add rfl rfl (by first | omega | (simp only [List.length_set]; omega))) rfl <| oA rfl rfl <| za0 <| za6 (i + 1) (by show m.dv.length - (i + 1) < m.dv.length - i; omega) ?_ (by repeat (first | exact Kp.base | exact Kp.self | refine Kp.cons rfl ?_ | refine Kp.forget rfl ?_)) ?_ (Ent.takeC del2 (by rw [Md.usT_yes hil (by rw [Md.usesD_at, ← hai]; rw [← hai] at *; simp_all)] <;> rfl) (t2_ (t2_ (t0_ (t1_ (eD eR))))))
       · omega
       · exact ⟨rfl,True.intro⟩
      ·
       refine za8 <| zak <| zat <| zai <| oM rfl rfl <| oP (P_add rfl rfl (by first | omega | (simp only [List.length_set]; omega))) rfl <| oA rfl rfl <| za0 <| za6 (i + 1) (by show m.dv.length - (i + 1) < m.dv.length - i; omega) ?_ (by repeat (first | exact Kp.base | exact Kp.self | refine Kp.cons rfl ?_ | refine Kp.forget rfl ?_)) ?_ (Ent.takeC del2 (by rw [Md.usT_no hil (by rw [Md.usesD_at, ← hai]; rw [← hai] at *; simp_all)] <;> rfl) (t2_ (t2_ (t0_ (t1_ (eD eR))))))
       · omega
       · exact ⟨rfl,True.intro⟩
    ·
     refine RJ_gn (GY_no rfl rfl rfl hg3B) rfl rfl <| RJ_gn (GY_no rfl rfl rfl hg3B) rfl rfl <| RJ_gn (GY_no rfl rfl rfl hg3B) rfl rfl <| RJ_gn (GY_no rfl rfl rfl hg3B) rfl rfl <| RJ_gn (GY_no rfl rfl rfl hg3B) rfl rfl <| RJ_gn (zbu rfl rfl rfl) rfl rfl <| RJ_gn (zbu rfl rfl rfl) rfl rfl <| RJ_gn (zbu rfl rfl rfl) rfl rfl <| RJ_gn (zbu rfl rfl rfl) rfl rfl <| RJ_gn (GY_no rfl rfl rfl hg3B) rfl rfl <| oP (za5 rfl hg3B rfl) rfl <| nT <| zbf rfl rfl <| za8 <| zak <| zat <| zai <| oM rfl rfl <| oP (P_add rfl rfl (by first | omega | (simp only [List.length_set]; omega))) rfl <| oA rfl rfl <| za0 <| za6 (i + 1) (by show m.dv.length - (i + 1) < m.dv.length - i; omega) ?_ (by repeat (first | exact Kp.base | exact Kp.self | refine Kp.cons rfl ?_ | refine Kp.forget rfl ?_)) ?_ (Ent.takeC del1 (by rw [Md.usT_no hil (by rw [Md.usesD_at, ← hai]; rw [← hai] at *; simp_all)] <;> rfl) (t1_ (t1_ (t1_ (t1_ (eD eR))))))
     · omega
     · exact ⟨rfl,True.intro⟩
   ·
    refine zbg <| zaw <| zav <| zau <| zat <| sR <| oV (zbo rfl foc0 Tryz.isAgg98 Tryz.sizeOf98 rfl rfl) rfl <| oO <| zbj rfl rfl foc4 Tryz.sizeOf98 rfl rfl rfl <| oA rfl rfl <| nT <| zaj <| zan (resA2 Tryz.results45 (zb8 rfl foc4 Tryz.isAgg98 Tryz.sizeOf98 rfl rfl) (zcy rfl)) ?_
    obtain rfl:i=m.dv.length := by omega
    obtain ⟨e1,e2,e3,e4⟩ := Md.st_some hdn
    have hak := hat k
    have hnk := (Md.find_lt hfk).2.2
    refine CSpec.close ⟨(c.l.getD k tyDv.dflt).1.lv,(c.l.getD k tyDv.dflt).1.nw⟩ ?_ ?_ (t2_ (t2_ (eD (eD (eD eR)))))
    ·
     rw [e1]
     unfold stV
     rw [e2,e3,e4,Md.usT_end, ← hak]
     rw [show (c.l.getD k tyDv.dflt).2.name=n by rw [hak]; exact hnk]
     rfl
    ·
     rw [e2]
     exact ⟨rrLv hkl,rrNw hkl⟩
theorem zv5 {W:World} {b:Nat} {c:RH} {m:Md} {n:ByteArray} :
    CSpec Tryz.prog W 25 [ptr b 0,.string n] [blk b 72 (zbi c m),RefR c m] (fun _:RH => .int .i64 (m.rmE n)) (fun _=>True) (fun c2 F=>blk b 72 (zbi c2 (m.rmS n))::RefR c2 (m.rmS n)::F) := by
 refine CSpec.of_body Tryz.func25 rfl Tryz.ntmps25 rfl fun F => ?_
 show CJ _ _ _ _ _ _ (_::_::F)
 refine zba (zci foc1) fun hW => ?_
 have hO := hW.ok
 have hln := hW.big.len
 have hll := hW.len
 have hat := hW.at
 refine sR <| oA rfl rfl <| nT <| sR <| oM rfl rfl <| oM rfl rfl <| oO <| zaq (zew) rfl Tryz.call39 (Dels.cons del0 (Dels.cons del0 Dels.nil)) rfl fun _ hc1=>oA rfl rfl <| nT <| zad <| zad ?_
 have hfc := Md.findI_cases (m:=m) (n:=n)
 refine zai <| oM rfl rfl <| oP (P_lss rfl rfl) rfl <| nT ?_
 first | (refine zao rfl (fun hg1 => ?_) (fun hg1 => ?_)) | (refine zap rfl (fun hg1 => ?_) (fun hg1 => ?_)) | (refine zar rfl (fun hg1 => ?_) (fun hg1 => ?_))
 ·
  refine sR <| oA rfl rfl <| nT <| zaj <| zae <| zan (res1 Tryz.results25 rfl) ?_
  have e1:m.rmE n=12∧m.rmS n=m := by
    rcases hfc with ⟨h1,_⟩ | ⟨k,_,h2,_⟩
    · exact zoy h1
    · exfalso; omega
  rw [e1.2]
  refine CSpec.close c ?_ ?_ (t0_ (t0_ eR))
  · rw [e1.1]
  · trivial
 ·
  refine kT <| zad <| zad ?_
  obtain ⟨hfk,hfi⟩ | ⟨k,hfk,hfi,hkl,hkg,hkn⟩ := hfc
  · exfalso; omega
  rw [hfi]
  refine zai <| oA rfl rfl <| nT <| zas <| zbe (X:=Nat) [4,6,7,15,16,17,18,19,20,21,22,23,24,25,26,27,28,29,30,31,32,33,34,35,36,37,38,39,40,41,42,43,44,45] (fun i  => ([(6,.int .i64 (i:Nat))]:Slots)) (fun i R=>R) (fun i  => i≤m.dv.length ∧ ∀ q,q < i→Md.usesD (m.at q) n=false) (fun i  => m.dv.length - i) (0) ?_ ?_ (t0_ (t0_ eR)) ?_
  · exact ⟨Nat.zero_le _,fun j h=>by omega⟩
  · exact ⟨rfl,True.intro⟩
  ·
   intro i hpf
   obtain ⟨hi,hno⟩ := hpf
   show CJ _ _ _ _ _ (([(6,.int .i64 (i:Nat))]:Slots) ++ forget _ _) (_)
   refine zad <| sR <| oM rfl rfl <| oM rfl rfl <| oP (zaf rfl) rfl <| oP (zaa rfl ⟨_,_,_,Tryz.runUnderlying72,rfl,rfl,Tryz.sizeOf70,rfl⟩) rfl <| oV (zag rfl foc0 rfl Tryz.isAgg70) rfl <| oV (V_len rfl foc1 rdDv Tryz.runUnderlying70) rfl <| oP (P_lss rfl rfl) rfl <| nT ?_
   first | (refine zao rfl (fun hg2 => ?_) (fun hg2 => ?_)) | (refine zap rfl (fun hg2 => ?_) (fun hg2 => ?_)) | (refine zar rfl (fun hg2 => ?_) (fun hg2 => ?_))
   ·
    refine kT <| zad <| zas <| zad ?_
    have hil:i < m.dv.length := by omega
    have hlv := (zbx (hO.chk i).1).1
    have hnw := (zbx (hO.chk i).2).1
    have hai := hat i
    refine zai <| oM rfl rfl <| oP (zaf rfl) rfl <| oP (zaa rfl ⟨_,_,_,Tryz.runUnderlying72,rfl,rfl,Tryz.sizeOf70,rfl⟩) rfl <| oV (zag rfl foc0 rfl Tryz.isAgg70) rfl <| oM rfl rfl ?_
    first | (refine RJ_op rfl (OJ_V (zal rfl rfl rfl (by first | omega | (simp only [List.length_set]; omega)) foc1 rdDv Tryz.runUnderlying70 Tryz.sizeOf91) rfl ?_)) | (refine RJ_op rfl (OJ_V (zal rfl rfl (Int.toNat_of_nonneg (by first | omega | (simp only [List.length_set]; omega))).symm (by first | omega | (simp only [List.length_set]; omega)) foc1 rdDv Tryz.runUnderlying70 Tryz.sizeOf91) rfl ?_))
    refine oV (zb7 rfl rfl (by first | omega | (simp only [List.length_set]; omega)) foc1 rdDv rfl rfl Tryz.isAgg91 Tryz.sizeOf91) rfl <| oO <| zb1 Tryz.zeroValue91 rfl rfl fun b2=>oO <| zbj rfl rfl foc0 Tryz.sizeOf91 rfl rfl rfl <| nT <| sR <| oP (zaa rfl ⟨_,_,_,Tryz.runUnderlying91,rfl,rfl,Tryz.sizeOf4,rfl⟩) rfl <| oV (zag rfl foc0 rfl Tryz.isAgg4) rfl <| oP (P_not rfl) rfl <| oM rfl rfl ?_
    first | (refine zbp 34 rfl (fun hg3B hg3 => ?_) (fun hg3B hg3 => ?_)) | (refine zbq 34 rfl (fun hg3B hg3 => ?_) (fun hg3B hg3 => ?_)) | (refine zbr 34 rfl (fun hg3B => ?_) (fun hg3B => ?_))
    ·
     refine gP (zab rfl rfl rfl hg3B) (zaa rfl ⟨_,_,_,Tryz.runUnderlying91,rfl,rfl,Tryz.sizeOf30,rfl⟩) rfl <| gV (zab rfl rfl rfl hg3B) (zag rfl foc0 rfl Tryz.isAgg30) rfl <| gP (zab rfl rfl rfl hg3B) (zah rfl) rfl <| RJ_gy (zab rfl rfl rfl hg3B) <| zaq (zdv (rrLv (by omega)) (zl0 (by first | assumption | omega))) rfl Tryz.call61 (Dels.cons del2 Dels.nil) rfl fun _ hc3=>gP (zab rfl rfl rfl hg3B) (zah rfl) rfl ?_
     first | (refine zbp 39 rfl (fun hg4B hg4 => ?_) (fun hg4B hg4 => ?_)) | (refine zbq 39 rfl (fun hg4B hg4 => ?_) (fun hg4B hg4 => ?_)) | (refine zbr 39 rfl (fun hg4B => ?_) (fun hg4B => ?_))
     ·
      refine RJ_gn (GY_no rfl rfl rfl hg4B) rfl rfl <| RJ_gn (GY_no rfl rfl rfl hg4B) rfl rfl <| RJ_gn (GY_no rfl rfl rfl hg4B) rfl rfl <| RJ_gn (GY_no rfl rfl rfl hg4B) rfl rfl <| gP (zab rfl rfl rfl hg3B) (za2 rfl hg4B rfl) rfl <| oP (za2 rfl hg3B rfl) rfl <| nT <| zbk rfl rfl <| sR <| oA rfl rfl <| nT <| zaj <| zam <| zae <| zbb <| zam <| zae <| zan (res1 Tryz.results25 rfl) ?_
      have e1 := zkb hfk (Md.users_pos hil (by rw [Md.usesD_at, ← hai]; rw [← hai] at *; simp_all))
      rw [e1.2]
      refine CSpec.close c ?_ ?_ (t2_ (t0_ (eD eR)))
      · rw [e1.1]
      · trivial
     ·
      refine gP (zab rfl rfl rfl hg4B) (zaa rfl ⟨_,_,_,Tryz.runUnderlying91,rfl,rfl,Tryz.sizeOf30,rfl⟩) rfl <| gV (zab rfl rfl rfl hg4B) (zag rfl foc1 rfl Tryz.isAgg30) rfl <| gP (zab rfl rfl rfl hg4B) (zah rfl) rfl <| RJ_gy (zab rfl rfl rfl hg4B) <| zaq (zdv (rrNw (by omega)) (zl0 (by first | assumption | omega))) rfl Tryz.call61 (Dels.cons del0 Dels.nil) rfl fun _ hc4=>gP (zab rfl rfl rfl hg3B) (za5 rfl hg4B rfl) rfl <| oP (za2 rfl hg3B rfl) rfl <| nT ?_
      first | (refine zao rfl (fun hg5 => ?_) (fun hg5 => ?_)) | (refine zap rfl (fun hg5 => ?_) (fun hg5 => ?_)) | (refine zar rfl (fun hg5 => ?_) (fun hg5 => ?_))
      ·
       refine sR <| oA rfl rfl <| nT <| zaj <| zam <| zae <| zbb <| zam <| zae <| zan (res1 Tryz.results25 rfl) ?_
       have e1 := zkb hfk (Md.users_pos hil (by rw [Md.usesD_at, ← hai]; rw [← hai] at *; simp_all))
       rw [e1.2]
       refine CSpec.close c ?_ ?_ (t2_ (t0_ (eD eR)))
       · rw [e1.1]
       · trivial
      ·
       refine za8 <| zak <| zat <| zai <| oM rfl rfl <| oP (P_add rfl rfl (by first | omega | (simp only [List.length_set]; omega))) rfl <| oA rfl rfl <| za0 <| za6 (i + 1) (by first | omega | (simp only []; omega)) ?_ (by repeat (first | exact Kp.base | exact Kp.self | refine Kp.cons rfl ?_ | refine Kp.forget rfl ?_)) ?_ (t2_ (t0_ (eD eR)))
       ·
        refine ⟨by omega,fun q hq => ?_⟩
        rcases Nat.lt_or_ge q i with h | h
        · exact hno q h
        · obtain rfl:q=i := by omega
          exact (by rw [Md.usesD_at, ← hai]; rw [← hai] at *; simp_all)
       · exact ⟨rfl,True.intro⟩
    ·
     refine RJ_gn (GY_no rfl rfl rfl hg3B) rfl rfl <| RJ_gn (GY_no rfl rfl rfl hg3B) rfl rfl <| RJ_gn (GY_no rfl rfl rfl hg3B) rfl rfl <| RJ_gn (GY_no rfl rfl rfl hg3B) rfl rfl <| RJ_gn (GY_no rfl rfl rfl hg3B) rfl rfl <| RJ_gn (zbu rfl rfl rfl) rfl rfl <| RJ_gn (zbu rfl rfl rfl) rfl rfl <| RJ_gn (zbu rfl rfl rfl) rfl rfl <| RJ_gn (zbu rfl rfl rfl) rfl rfl <| RJ_gn (GY_no rfl rfl rfl hg3B) rfl rfl <| oP (za5 rfl hg3B rfl) rfl <| nT <| zbf rfl rfl <| za8 <| zak <| zat <| zai <| oM rfl rfl <| oP (P_add rfl rfl (by first | omega | (simp only [List.length_set]; omega))) rfl <| oA rfl rfl <| za0 <| za6 (i + 1) (by first | omega | (simp only []; omega)) ?_ (by repeat (first | exact Kp.base | exact Kp.self | refine Kp.cons rfl ?_ | refine Kp.forget rfl ?_)) ?_ (t1_ (t1_ (eD eR)))
     ·
      refine ⟨by omega,fun q hq => ?_⟩
      rcases Nat.lt_or_ge q i with h | h
      · exact hno q h
      · obtain rfl:q=i := by omega
        exact (by rw [Md.usesD_at, ← hai]; rw [← hai] at *; simp_all)
     · exact ⟨rfl,True.intro⟩
   ·
    refine zbg <| zaw <| zav <| zau <| zat <| zad <| zad ?_
    obtain rfl:i=m.dv.length := by omega
    have huz := Md.users_zero hno
    refine zai <| oA rfl rfl <| nT <| zas <| zbe (X:=Nat) [4,8,9,46,47,48,49,50,51,52,53,54,55,56,57,58,59,60,61,62,63,64,65,66,67,68,69,70,71,72,73,74,75,76,77,78,79,80,81,82,83,84,85,86] (fun i  => ([(8,.int .i64 (i:Nat))]:Slots)) (fun i R=>R) (fun i  => i≤m.dv.length ∧ ∀ q,q < i → ∀ j,j < (m.at q).wait.length→q≠k∧((m.at q).wait.getD j Wt.z).gv≠k) (fun i  => m.dv.length - i) (0) ?_ ?_ (t0_ (t0_ eR)) ?_
    · exact ⟨Nat.zero_le _,fun j h=>by omega⟩
    · exact ⟨rfl,True.intro⟩
    ·
     intro i hpf
     obtain ⟨hi,hbn⟩ := hpf
     show CJ _ _ _ _ _ (([(8,.int .i64 (i:Nat))]:Slots) ++ forget _ _) (_)
     refine zad <| sR <| oM rfl rfl <| oM rfl rfl <| oP (zaf rfl) rfl <| oP (zaa rfl ⟨_,_,_,Tryz.runUnderlying72,rfl,rfl,Tryz.sizeOf70,rfl⟩) rfl <| oV (zag rfl foc0 rfl Tryz.isAgg70) rfl <| oV (V_len rfl foc1 rdDv Tryz.runUnderlying70) rfl <| oP (P_lss rfl rfl) rfl <| nT ?_
     first | (refine zao rfl (fun hg6 => ?_) (fun hg6 => ?_)) | (refine zap rfl (fun hg6 => ?_) (fun hg6 => ?_)) | (refine zar rfl (fun hg6 => ?_) (fun hg6 => ?_))
     ·
      refine kT <| zad <| zas <| zad ?_
      have hil:i < m.dv.length := by omega
      have hwl := hW.big.wl i
      refine zai <| oA rfl rfl <| nT <| zas <| zbe (X:=Nat) [4,9,55,56,57,58,59,60,61,62,63,64,65,66,67,68,69,70,71,72,73,74,75,76,77,78,79,80,81,82,83,84,85,86] (fun j  => ([(9,.int .i64 (j:Nat))]:Slots)) (fun j R=>R) (fun j  => j≤(m.at i).wait.length ∧ ∀ j2,j2 < j→i≠k∧((m.at i).wait.getD j2 Wt.z).gv≠k) (fun j  => (m.at i).wait.length - j) (0) ?_ ?_ (t0_ (t0_ eR)) ?_
      · exact ⟨Nat.zero_le _,fun j h=>by omega⟩
      · exact ⟨rfl,True.intro⟩
      ·
       intro j hpf
       obtain ⟨hj,hjn⟩ := hpf
       show CJ _ _ _ _ _ (([(9,.int .i64 (j:Nat))]:Slots) ++ forget _ _) (_)
       refine zad <| sR <| oM rfl rfl <| oM rfl rfl <| oP (zaf rfl) rfl <| oP (zaa rfl ⟨_,_,_,Tryz.runUnderlying72,rfl,rfl,Tryz.sizeOf70,rfl⟩) rfl <| oV (zag rfl foc0 rfl Tryz.isAgg70) rfl <| oM rfl rfl ?_
       first | (refine RJ_op rfl (OJ_V (zal rfl rfl rfl (by first | omega | (simp only [List.length_set]; omega)) foc1 rdDv Tryz.runUnderlying70 Tryz.sizeOf91) rfl ?_)) | (refine RJ_op rfl (OJ_V (zal rfl rfl (Int.toNat_of_nonneg (by first | omega | (simp only [List.length_set]; omega))).symm (by first | omega | (simp only [List.length_set]; omega)) foc1 rdDv Tryz.runUnderlying70 Tryz.sizeOf91) rfl ?_))
       refine oP (zay rfl ⟨_,_,_,Tryz.runUnderlying91,rfl,rfl,Tryz.sizeOf89,rfl⟩) rfl <| oV (zaz rfl rfl (by first | omega | (simp only [List.length_set]; omega)) foc1 rdDv rfl rfl Tryz.isAgg89) rfl <| oV (V_len rfl foc1 (rrWt (by omega)) Tryz.runUnderlying89) rfl <| oP (P_lss rfl rfl) rfl <| nT ?_
       first | (refine zao rfl (fun hg7 => ?_) (fun hg7 => ?_)) | (refine zap rfl (fun hg7 => ?_) (fun hg7 => ?_)) | (refine zar rfl (fun hg7 => ?_) (fun hg7 => ?_))
       ·
        refine kT <| zad <| zas <| zad ?_
        have hjl:j < (m.at i).wait.length := by omega
        have hgd:((m.at i).wait.getD j tyWt.dflt).gv=((m.at i).wait.getD j Wt.z).gv := rfl
        refine zai <| oM rfl rfl <| oM rfl rfl <| oP (P_eql rfl rfl) rfl <| oM rfl rfl ?_
        first | (refine zbp 71 rfl (fun hg8B hg8 => ?_) (fun hg8B hg8 => ?_)) | (refine zbq 71 rfl (fun hg8B hg8 => ?_) (fun hg8B hg8 => ?_)) | (refine zbr 71 rfl (fun hg8B => ?_) (fun hg8B => ?_))
        ·
         refine RJ_gn (GY_no rfl rfl rfl hg8B) rfl rfl <| RJ_gn (GY_no rfl rfl rfl hg8B) rfl rfl <| RJ_gn (GY_no rfl rfl rfl hg8B) rfl rfl <| RJ_gn (GY_no rfl rfl rfl hg8B) rfl rfl <| RJ_gn (GY_no rfl rfl rfl hg8B) rfl rfl <| RJ_gn (GY_no rfl rfl rfl hg8B) rfl rfl <| RJ_gn (GY_no rfl rfl rfl hg8B) rfl rfl <| RJ_gn (GY_no rfl rfl rfl hg8B) rfl rfl <| RJ_gn (GY_no rfl rfl rfl hg8B) rfl rfl <| RJ_gn (GY_no rfl rfl rfl hg8B) rfl rfl <| RJ_gn (GY_no rfl rfl rfl hg8B) rfl rfl <| RJ_gn (GY_no rfl rfl rfl hg8B) rfl rfl <| RJ_gn (GY_no rfl rfl rfl hg8B) rfl rfl <| RJ_gn (GY_no rfl rfl rfl hg8B) rfl rfl <| oP (za2 rfl hg8B rfl) rfl <| nT <| zbk rfl rfl <| sR <| oA rfl rfl <| nT <| zaj <| zam <| zae <| zbb <| zam <| zam <| zae <| zbb <| zam <| zae <| zan (res1 Tryz.results25 rfl) ?_
         have e1 := zoz hfk (by omega) (Md.busy_yes (k:=k) hil hjl (by first | exact .inl (by omega) | exact .inr (by omega)))
         rw [e1.2]
         refine CSpec.close c ?_ ?_ (t0_ (t0_ eR))
         · rw [e1.1]
         · trivial
        ·
         refine gP (zab rfl rfl rfl hg8B) (zah rfl) rfl <| gP (zab rfl rfl rfl hg8B) (zaf rfl) rfl <| gP (zab rfl rfl rfl hg8B) (zaa rfl ⟨_,_,_,Tryz.runUnderlying72,rfl,rfl,Tryz.sizeOf70,rfl⟩) rfl <| gV (zab rfl rfl rfl hg8B) (zag rfl foc0 rfl Tryz.isAgg70) rfl <| gP (zab rfl rfl rfl hg8B) (zah rfl) rfl ?_
         first | (refine RJ_gy (zab rfl rfl rfl hg8B) (OJ_V (zal rfl rfl rfl (by first | omega | (simp only [List.length_set]; omega)) foc1 rdDv Tryz.runUnderlying70 Tryz.sizeOf91) rfl ?_)) | (refine RJ_gy (zab rfl rfl rfl hg8B) (OJ_V (zal rfl rfl (Int.toNat_of_nonneg (by first | omega | (simp only [List.length_set]; omega))).symm (by first | omega | (simp only [List.length_set]; omega)) foc1 rdDv Tryz.runUnderlying70 Tryz.sizeOf91) rfl ?_))
         refine gP (zab rfl rfl rfl hg8B) (zay rfl ⟨_,_,_,Tryz.runUnderlying91,rfl,rfl,Tryz.sizeOf89,rfl⟩) rfl <| gV (zab rfl rfl rfl hg8B) (zaz rfl rfl (by first | omega | (simp only [List.length_set]; omega)) foc1 rdDv rfl rfl Tryz.isAgg89) rfl <| gP (zab rfl rfl rfl hg8B) (zah rfl) rfl ?_
         first | (refine RJ_gy (zab rfl rfl rfl hg8B) (OJ_V (zal rfl rfl rfl (by first | omega | (simp only [List.length_set]; omega)) foc1 (rrWt (by omega)) Tryz.runUnderlying89 Tryz.sizeOf94) rfl ?_)) | (refine RJ_gy (zab rfl rfl rfl hg8B) (OJ_V (zal rfl rfl (Int.toNat_of_nonneg (by first | omega | (simp only [List.length_set]; omega))).symm (by first | omega | (simp only [List.length_set]; omega)) foc1 (rrWt (by omega)) Tryz.runUnderlying89 Tryz.sizeOf94) rfl ?_))
         refine gP (zab rfl rfl rfl hg8B) (zay rfl ⟨_,_,_,Tryz.runUnderlying94,rfl,rfl,Tryz.sizeOf3,rfl⟩) rfl <| gV (zab rfl rfl rfl hg8B) (zaz rfl rfl (by first | omega | (simp only [List.length_set]; omega)) foc1 (rrWt (by omega)) rfl rfl Tryz.isAgg3) rfl <| gP (zab rfl rfl rfl hg8B) (zah rfl) rfl <| gP (zab rfl rfl rfl hg8B) (P_eql rfl rfl) rfl <| oP (za5 rfl hg8B rfl) rfl <| nT ?_
         first | (refine zao rfl (fun hg9 => ?_) (fun hg9 => ?_)) | (refine zap rfl (fun hg9 => ?_) (fun hg9 => ?_)) | (refine zar rfl (fun hg9 => ?_) (fun hg9 => ?_))
         ·
          refine sR <| oA rfl rfl <| nT <| zaj <| zam <| zae <| zbb <| zam <| zam <| zae <| zbb <| zam <| zae <| zan (res1 Tryz.results25 rfl) ?_
          have e1 := zoz hfk (by omega) (Md.busy_yes (k:=k) hil hjl (by first | exact .inl (by omega) | exact .inr (by omega)))
          rw [e1.2]
          refine CSpec.close c ?_ ?_ (t0_ (t0_ eR))
          · rw [e1.1]
          · trivial
         ·
          refine za8 <| zak <| zat <| zai <| oM rfl rfl <| oP (P_add rfl rfl (by first | omega | (simp only [List.length_set]; omega))) rfl <| oA rfl rfl <| za0 <| za6 (j + 1) (by first | omega | (simp only []; omega)) ?_ (by repeat (first | exact Kp.base | exact Kp.self | refine Kp.cons rfl ?_ | refine Kp.forget rfl ?_)) ?_ (t0_ (t0_ eR))
          ·
           refine ⟨by omega,fun q hq => ?_⟩
           rcases Nat.lt_or_ge q j with h | h
           · exact hjn q h
           · obtain rfl:q=j := by omega
             exact ⟨by omega,by omega⟩
          · exact ⟨rfl,True.intro⟩
       ·
        refine zbg <| zaw <| zav <| zau <| zak <| zat <| zai <| oM rfl rfl <| oP (P_add rfl rfl (by first | omega | (simp only [List.length_set]; omega))) rfl <| oA rfl rfl <| za0 <| za6 (i + 1) (by first | omega | (simp only []; omega)) ?_ (by repeat (first | exact Kp.base | exact Kp.self | refine Kp.cons rfl ?_ | refine Kp.forget rfl ?_)) ?_ (t0_ (t0_ eR))
        ·
         refine ⟨by omega,fun q hq => ?_⟩
         rcases Nat.lt_or_ge q i with h | h
         · exact hbn q h
         · obtain rfl:q=i := by omega
           exact fun j2 hj2=>hjn j2 (by omega)
        · exact ⟨rfl,True.intro⟩
     ·
      refine zbg <| zaw <| zav <| zau <| zat <| zad ?_
      obtain rfl:i=m.dv.length := by omega
      have hbz := Md.busy_no hkl hbn
      refine zbd (Ent.trans (t1_ eR) (zc5 hkl)) <| zai <| oM rfl rfl <| oP (zaf rfl) rfl <| oP (zaa rfl ⟨_,_,_,Tryz.runUnderlying72,rfl,rfl,Tryz.sizeOf70,rfl⟩) rfl <| oV (zag rfl foc7 rfl Tryz.isAgg70) rfl <| oM rfl rfl ?_
      first | (refine RJ_op rfl (OJ_V (zal rfl rfl rfl (by first | omega | (simp only [List.length_set]; omega)) foc4 (Reads.sl _ _ _) Tryz.runUnderlying70 Tryz.sizeOf91) rfl ?_)) | (refine RJ_op rfl (OJ_V (zal rfl rfl (Int.toNat_of_nonneg (by first | omega | (simp only [List.length_set]; omega))).symm (by first | omega | (simp only [List.length_set]; omega)) foc4 (Reads.sl _ _ _) Tryz.runUnderlying70 Tryz.sizeOf91) rfl ?_))
      refine oP (zay rfl ⟨_,_,_,Tryz.runUnderlying91,rfl,rfl,Tryz.sizeOf4,rfl⟩) rfl <| oO <| zb3 (x' := ((c.l.getD k tyDv.dflt).1, { (c.l.getD k tyDv.dflt).2 with gone := true })) rfl rfl rfl (by first | omega | (simp only [List.length_set]; omega)) foc4 rfl rfl rfl Tryz.sizeOf4 <| nT <| sR <| oA rfl rfl <| nT <| zaj <| zan (res1 Tryz.results25 rfl) ?_
      have e1 := rm_ok hfk (by omega) hbz
      rw [e1.2]
      refine CSpec.close (c.put k (c.hd k) { m.at k with gone := true }) ?_ ?_ (Ent.trans (Ent.trans (t0_ (t0_ (t0_ (t0_ (Ent.takeC del0 (congrArg (sl tyDv _) (by simp only [stq (show k < c.l.length by omega),hd_at hW,List.set_set])) (t0_ (t0_ eR))))))) (zed (h:=c.hd k) (d := { m.at k with gone := true }) (m' := m.drop k) hW hkl rfl (hO.drop hkl hkg (by rw [hkn]; exact huz) hbz) (hW.big.drop hkl) rfl)) (t1_ (t0_ eR)))
      · rw [e1.1]
      · trivial
end Go.Proofs
namespace Go.Proofs
theorem zlo {α β:Type} (g:α→β) (l:List α) (i:Nat) (d:α):(l.map g).getD i (g d)=g (l.getD i d) := by
  simp only [List.getD,List.getElem?_map]; cases l[i]? <;> rfl
section
variable {l:List api_Target} {a b:ByteArray}
theorem zs2 {t:api_Target} (h:t ∈ Md.ren l a b):∃ t0 ∈ l,t=(if t0.On=a then { t0 with On := b } else t0) := by
  obtain ⟨t0,h1,h2⟩ := List.mem_map.1 h
  exact ⟨t0,h1,h2.symm⟩
theorem zpu (ha:a≠noN) (hb:b≠noN):∀ (l:List api_Target) (s:Int),chkGo (Md.ren l a b) s=chkGo l s
  | [],_=>rfl
  | t::l,s=>by
    have ih := zpu ha hb l (s + t.Length)
    have e:Md.ren (t::l) a b=(if t.On=a then { t with On := b } else t)::Md.ren l a b := rfl
    rw [e]
    by_cases h:t.On=a
    · rw [if_pos h]
      simp only [chkGo,h,ne_eq,ha,hb,ih,not_false_eq_true]
    · rw [if_neg h]
      simp only [chkGo,ih]
theorem zl8:(Md.ren l a b).length=l.length := List.length_map ..
theorem zs3 (ha:a≠noN) (hb:b≠noN):chk (Md.ren l a b)=chk l := by
  unfold chk; rw [zl8,zpu ha hb]
end
namespace Md
def renD (a b:ByteArray) (d:Dv):Dv := { d with live := ren d.live a b,new := ren d.new a b }
def renS (m:Md) (k:Nat) (n to:ByteArray):Md := { m with dv := (m.dv.set k { m.at k with name := to }).map (renD n to) }
section
variable {m:Md} {k:Nat} {n to:ByteArray}
theorem rnS_ok (h:m.dev n=some k) (hf:m.freshE to=0):m.rnE n to=0∧m.rnS n to=m.renS k n to := by
  unfold rnE rnS; rw [h]
  exact ⟨hf,if_pos hf⟩
theorem rnS_no (h:m.rnE n to≠0):m.rnS n to=m := by
  unfold rnE at h
  unfold rnS
  cases hd:m.dev n with
  | none=>rfl
  | some k=>rw [hd] at h; exact if_neg h
theorem fresh_ok (h:m.freshE to=0):1≤to.size∧to.size≤40∧m.find to=none∧to≠noN := by
  unfold freshE at h
  split at h
  · cases h
  · split at h
    · cases h
    · rename_i h1 h2
      have h3:1≤to.size := by omega
      exact ⟨h3,by omega,by simpa using h2,fun e=>by rw [e] at h3; exact absurd h3 (by decide)⟩
theorem len_renS:(m.renS k n to).dv.length=m.dv.length := by simp [renS]
theorem at_renS (hk:k < m.dv.length) {i:Nat} : (m.renS k n to).at i=renD n to (if i=k then { m.at k with name := to } else m.at i) := by
  have e := zlo (renD n to) (m.dv.set k { m.at k with name := to }) i Dv.z
  have e2 := at_set (m:=m) (d' := { m.at k with name := to }) (i:=i) hk
  have e3:(m.dv.set k { m.at k with name := to }).getD i Dv.z=(m.set k { m.at k with name := to }).at i := rfl
  rw [e3,e2] at e
  have e4:renD n to Dv.z=Dv.z := rfl
  rw [e4] at e
  exact e
theorem at_renS' (hk:k < m.dv.length) {i:Nat} : ((m.renS k n to).at i).gone=(m.at i).gone∧((m.renS k n to).at i).isB=(m.at i).isB∧((m.renS k n to).at i).name=(if i=k then to else (m.at i).name)∧((m.renS k n to).at i).base=(m.at i).base ∧
    ((m.renS k n to).at i).live=ren (m.at i).live n to∧((m.renS k n to).at i).new=ren (m.at i).new n to∧((m.renS k n to).at i).hl=(m.at i).hl∧((m.renS k n to).at i).hn=(m.at i).hn∧((m.renS k n to).at i).susp=(m.at i).susp∧((m.renS k n to).at i).wait=(m.at i).wait := by
  rw [at_renS hk]
  by_cases e:i=k
  · rw [if_pos e,if_pos e,e]; exact ⟨rfl,rfl,rfl,rfl,rfl,rfl,rfl,rfl,rfl,rfl⟩
  · rw [if_neg e,if_neg e]; exact ⟨rfl,rfl,rfl,rfl,rfl,rfl,rfl,rfl,rfl,rfl⟩
theorem find_renS (hO:MdOk m) (hd:m.isDx k) (hn:(m.at k).name=n) (hf:m.find to=none) {x:ByteArray} : (m.renS k n to).find x=if x=to then some k else if x=n then none else m.find x := by
  have hk := hd.1
  have hin:∀ {y:Md} {x:ByteArray} {j:Nat},y.find x=some j→j < y.dv.length∧(y.at j).gone=false∧(y.at j).name=x := fun {y x j} h=>by
    obtain ⟨h1,h2,_⟩ := List.findIdx?_eq_some_iff_getElem.1 h
    have e:y.at j=y.dv[j] := by simp [Md.at,List.getD,h1]
    simp only [isN,Bool.and_eq_true,Bool.not_eq_true',decide_eq_true_eq] at h2
    exact ⟨h1,by rw [e]; exact h2.1,by rw [e]; exact h2.2⟩
  have hfi:∀ {y:Md} {x:ByteArray} {j:Nat},j < y.dv.length→(y.at j).gone=false→(y.at j).name=x → ∃ i,y.find x=some i := fun {y x j} h1 h2 h3=>by
    cases hf:y.find x with
    | some i=>exact ⟨i,rfl⟩
    | none =>
      have := List.findIdx?_eq_none_iff.1 hf y.dv[j] (List.getElem_mem h1)
      have e:y.at j=y.dv[j] := by simp [Md.at,List.getD,h1]
      rw [← e] at this
      simp [isN,h2,h3] at this
  -- any device of a name in the new one
  have hone:∀ {x:ByteArray} {j:Nat},(m.renS k n to).find x=some j→j < m.dv.length∧(m.at j).gone=false∧(if j=k then to else (m.at j).name)=x := fun {x j} h=>by
    obtain ⟨h1,h2,h3⟩ := hin h
    rw [len_renS] at h1
    obtain ⟨e1,_,e3,_⟩ := at_renS' (n:=n) (to:=to) hk (i:=j)
    exact ⟨h1,e1 ▸ h2,e3 ▸ h3⟩
  have hto:∀ {j:Nat},j < m.dv.length→(m.at j).gone=false→(m.at j).name≠to := fun {j} h1 h2 h3=>by
    obtain ⟨i,hi⟩ := hfi h1 h2 h3
    rw [hf] at hi; cases hi
  have hnew:∀ {x:ByteArray} {j:Nat},j < m.dv.length→(m.at j).gone=false→(if j=k then to else (m.at j).name)=x → ∃ i,(m.renS k n to).find x=some i := fun {x j} h1 h2 h3=>by
    obtain ⟨e1,_,e3,_⟩ := at_renS' (n:=n) (to:=to) hk (i:=j)
    exact hfi (y:=m.renS k n to) (j:=j) (by rw [len_renS]; exact h1) (e1.trans h2) (e3.trans h3)
  split
  · rename_i e; subst e
    obtain ⟨i,hi⟩ := hnew (j:=k) (x:=x) hk hd.2.1 (if_pos rfl)
    obtain ⟨g1,g2,g3⟩ := hone hi
    by_cases ei:i=k
    · rw [hi,ei]
    · rw [if_neg ei] at g3; exact absurd g3 (hto g1 g2)
  · rename_i e
    split
    · rename_i e2; subst e2
      cases hfx:(m.renS k x to).find x with
      | none=>rfl
      | some i =>
        obtain ⟨g1,g2,g3⟩ := hone hfx
        by_cases ei:i=k
        · rw [if_pos ei] at g3; exact absurd g3.symm e
        · rw [if_neg ei] at g3; exact absurd (hO.uniq i k g1 hk g2 hd.2.1 (g3.trans hn.symm)) ei
    · rename_i e2
      cases hfm:m.find x with
      | none =>
        cases hfx:(m.renS k n to).find x with
        | none=>rfl
        | some i =>
          obtain ⟨g1,g2,g3⟩ := hone hfx
          by_cases ei:i=k
          · rw [if_pos ei] at g3; exact absurd g3.symm e
          · rw [if_neg ei] at g3
            obtain ⟨j,hj⟩ := hfi g1 g2 g3
            rw [hfm] at hj; cases hj
      | some j =>
        obtain ⟨h1,h2,h3⟩ := hin hfm
        have ej:j≠k := fun ej=>e2 (by rw [← h3,ej,hn])
        obtain ⟨i,hi⟩ := hnew (j:=j) (x:=x) h1 h2 (by rw [if_neg ej]; exact h3)
        obtain ⟨g1,g2,g3⟩ := hone hi
        by_cases ei:i=k
        · rw [if_pos ei] at g3; exact absurd g3.symm e
        · rw [if_neg ei] at g3
          rw [hi,hO.uniq i j g1 h1 g2 h2 (g3.trans h3.symm)]
theorem dev_renS (hO:MdOk m) (hd:m.isDx k) (hn:(m.at k).name=n) (hf:m.find to=none) {x:ByteArray} : (m.renS k n to).dev x=if x=to then some k else if x=n then none else m.dev x := by
  unfold Md.dev
  rw [find_renS hO hd hn hf]
  have hb:∀ i,((m.renS k n to).at i).isB=(m.at i).isB := fun i=>(at_renS' hd.1).2.1
  split
  · simp [hb,hd.2.2]
  · split
    · rfl
    · congr 1; funext i; rw [hb]
theorem names_renS (hO:MdOk m) (hd:m.isDx k) (hn:(m.at k).name=n):(m.renS k n to).names=m.names.map fun x=>if x=n then to else x := by
  have key:∀ (l:List Dv) (o:Nat),(∀ i,i < l.length→l.getD i Dv.z=m.at (o + i))→o + l.length=m.dv.length → ∀ l2:List Dv,l2.length=l.length→(∀ i,i < l.length→l2.getD i Dv.z=(m.renS k n to).at (o + i)) →
      (l2.filter fun d => !d.gone).map (·.name)=((l.filter fun d => !d.gone).map (·.name)).map fun x=>if x=n then to else x := by
    intro l
    induction l with
    | nil=>intro o h1 h2 l2 h3 h4; cases l2 with
      | nil=>rfl
      | cons a b=>cases h3
    | cons a l ih =>
      intro o h1 h2 l2 h3 h4
      cases l2 with
      | nil=>cases h3
      | cons a2 l2 =>
        have e1 := h1 0 (by simp)
        have e2 := h4 0 (by simp)
        simp only [Nat.add_zero,List.getD_cons_zero] at e1 e2
        have ih2 := ih (o + 1) (fun i hi=>by have := h1 (i + 1) (by simpa using hi); rw [List.getD_cons_succ] at this; rw [this]; congr 1; omega) (by simp at h2; omega) l2 (by simpa using h3) (fun i hi=>by have := h4 (i + 1) (by simpa using hi); rw [List.getD_cons_succ] at this; rw [this,show o + (i + 1)=o + 1 + i by omega])
        simp at h2
        obtain ⟨g1,_,g3,_⟩ := at_renS' (m:=m) (n:=n) (to:=to) hd.1 (i:=o)
        rw [← e2, ← e1] at g1
        rw [← e2, ← e1] at g3
        by_cases hg:a.gone=false
        · rw [List.filter_cons_of_pos (by simp [g1,hg]),List.filter_cons_of_pos (by simp [hg]),List.map_cons,List.map_cons,List.map_cons,ih2,g3]
          congr 1
          by_cases eo:o=k
          · rw [if_pos eo,if_pos (by rw [e1,eo,hn])]
          · rw [if_neg eo,if_neg]
            intro e
            rw [e1] at e hg
            exact eo (hO.uniq o k (by omega) hd.1 hg hd.2.1 (e.trans hn.symm))
        · rw [List.filter_cons_of_neg (by simp [g1]; simpa using hg),List.filter_cons_of_neg (by simpa using hg),ih2]
  unfold names
  exact key m.dv 0 (fun i _=>by rw [Nat.zero_add]; rfl) (by simp) (m.renS k n to).dv len_renS (fun i hi=>by rw [Nat.zero_add]; rfl)
end
end Md
open Md in
theorem MdOk.ren {m:Md} {k:Nat} {n to:ByteArray} (hO:MdOk m) (hd:m.isDx k) (hn:(m.at k).name=n) (hf:m.find to=none) (hto:to≠noN):MdOk (m.renS k n to) := by
  have hnn:n≠noN := hn ▸ hO.nm k hd.1 hd.2.1
  have hfd := fun x=>find_renS (x:=x) hO hd hn hf
  have hat := fun i=>at_renS' (n:=n) (to:=to) hd.1 (i:=i)
  -- a name in a table
  have hon:∀ i,i < m.dv.length→(m.at i).gone=false → ∀ t ∈ tbl ((m.renS k n to).at i), ∃ t0 ∈ tbl (m.at i),t=(if t0.On=n then { t0 with On := to } else t0)∧(m.renS k n to).find t.On=m.find t0.On∧(t.On=noN→t0.On=noN) := by
    intro i hi hg t ht
    obtain ⟨_,_,_,_,e5,e6,_⟩ := hat i
    unfold tbl at ht
    rw [e5,e6] at ht
    have h0:∃ t0 ∈ tbl (m.at i),t=(if t0.On=n then { t0 with On := to } else t0) := by
      rcases List.mem_append.1 ht with h | h
      · obtain ⟨t0,h1,h2⟩ := zs2 h
        exact ⟨t0,List.mem_append.2 (.inl h1),h2⟩
      · obtain ⟨t0,h1,h2⟩ := zs2 h
        exact ⟨t0,List.mem_append.2 (.inr h1),h2⟩
    obtain ⟨t0,h1,h2⟩ := h0
    have hne:t0.On≠to := fun e=>by
      have := hO.nam i hi hg t0 h1 (by rw [e]; exact hto)
      rw [e,hf] at this; cases this
    refine ⟨t0,h1,h2,?_,?_⟩
    · by_cases h3:t0.On=n
      · rw [if_pos h3] at h2
        rw [h2,hfd,if_pos rfl,h3, ← hn]
        exact (find_at hO hd.1 hd.2.1).symm
      · rw [if_neg h3] at h2
        rw [h2,hfd,if_neg hne,if_neg h3]
    · intro h4
      by_cases h3:t0.On=n
      · rw [if_pos h3] at h2
        rw [h2] at h4; exact absurd h4 hto
      · rw [if_neg h3] at h2
        rw [← h2]; exact h4
  refine ⟨fun i j hi hj hgi hgj he => ?_,fun i hi hgi => ?_,fun i => ?_,fun i hi hgi t ht hne => ?_,?_,fun i hi => ?_,fun i hi => ?_,fun i hi => ?_,fun i hi w hw => ?_⟩
  · rw [len_renS] at hi hj
    rw [(hat i).1] at hgi
    rw [(hat j).1] at hgj
    rw [(hat i).2.2.1,(hat j).2.2.1] at he
    have hno:∀ j,j < m.dv.length→(m.at j).gone=false→(m.at j).name≠to := fun j h1 h2 h3=>by
      have := find_at hO h1 h2
      rw [h3,hf] at this; cases this
    by_cases ei:i=k <;> by_cases ej:j=k
    · rw [ei,ej]
    · rw [if_pos ei,if_neg ej] at he; exact absurd he.symm (hno j hj hgj)
    · rw [if_neg ei,if_pos ej] at he; exact absurd he (hno i hi hgi)
    · rw [if_neg ei,if_neg ej] at he; exact hO.uniq i j hi hj hgi hgj he
  · rw [len_renS] at hi
    rw [(hat i).1] at hgi
    rw [(hat i).2.2.1]
    split
    · exact hto
    · exact hO.nm i hi hgi
  · rw [(hat i).2.2.2.2.1,(hat i).2.2.2.2.2.1,zs3 hnn hto,zs3 hnn hto]; exact hO.chk i
  · rw [len_renS] at hi
    rw [(hat i).1] at hgi
    obtain ⟨t0,h1,_,h3,h4⟩ := hon i hi hgi t ht
    rw [h3]
    refine hO.nam i hi hgi t0 h1 fun e => ?_
    rename_i h2
    rw [e] at h2
    rw [if_neg (fun e=>hnn e.symm)] at h2
    exact hne (by rw [h2]; exact e)
  · obtain ⟨rk,hr⟩ := hO.acy
    refine ⟨rk,fun i hi hgi t ht j hj => ?_⟩
    rw [len_renS] at hi
    rw [(hat i).1] at hgi
    obtain ⟨t0,h1,_,h3,_⟩ := hon i hi hgi t ht
    rw [h3] at hj
    exact hr i hi hgi t0 h1 j hj
  · obtain ⟨_,q2,_,q4,q5,q6,q7,q8,q9,q10⟩ := hat i
    rw [q2] at hi
    obtain ⟨p1,p2,p3,p4,p5,p6,p7⟩ := hO.bas i hi
    rw [q4,q5,q6,q7,q8,q9,q10,p1,p2]
    exact ⟨rfl,rfl,p3,p4,p5,p6,p7⟩
  · obtain ⟨_,_,_,_,q5,_,q7,_⟩ := hat i
    rw [q7] at hi
    rw [q5,hO.hl i hi]; rfl
  · obtain ⟨_,_,_,_,_,q6,_,q8,_⟩ := hat i
    rw [q8] at hi
    rw [q6,hO.hn i hi]; rfl
  · rw [len_renS] at hi
    obtain ⟨_,_,_,_,_,_,_,_,_,q10⟩ := hat i
    rw [q10] at hw
    obtain ⟨g1,g2,g3,g4,g5⟩ := hO.org i hi w hw
    refine ⟨(hat i).1.trans g1,by rw [len_renS]; exact g2,(hat w.gv).1.trans g3,(hat w.gv).2.1.trans g4,g5⟩
open Md in
theorem MdBig.ren {m:Md} {k:Nat} {n to:ByteArray} (h:MdBig m) (hk:k < m.dv.length):MdBig (m.renS k n to) :=
  ⟨by rw [len_renS]; exact h.len,fun i=>by rw [(at_renS' hk).2.2.2.2.2.2.2.2.2]; exact h.wl i,h.tks,h.told,h.wr⟩
namespace Md
section
variable {m:Md} {k:Nat} {n to:ByteArray}
theorem zv6 (hk:k < m.dv.length):(m.renS k n to).wsum=m.wsum := zkc len_renS fun _i=>(at_renS' hk).2.2.2.2.2.2.2.2.2
theorem bd_rn (h:MdBd m) (hc:m.cl < 4000):MdBd (m.rnS n to).tick := by
  by_cases he:m.rnE n to=0
  · unfold rnE at he
    cases hd:m.dev n with
    | none=>rw [hd] at he; cases he
    | some k =>
      rw [hd] at he
      have hk := zlk hd
      rw [(rnS_ok hd he).2]
      exact zdj (m:=m.renS k n to) ⟨by rw [zv6 hk]; exact h.wl,h.tks,h.told,h.wr,by rw [len_renS]; exact h.len,h.cl⟩ hc
  · rw [rnS_no he]; exact zdj h hc
end
end Md
end Go.Proofs
set_option linter.unusedSimpArgs false
set_option maxRecDepth 20000
namespace Go.Proofs
open Go.VG
theorem zkn (v0:(Option Addr)) (v1:Nat) (v2:Nat) (v3:(Option Addr)) (v4:Nat) (v5:Nat):zbt Tryz.prog 119 2 [(0,.slice v0 v1 v2),(1,.slice v3 v4 v5)] 30 [.slice v0 v1 v2,.slice v3 v4 v5] := fun w=>by kernel_rfl
theorem mpi_nd {κ ν:Type} [DecidableEq κ] {M:MTy κ ν} {bm r:Nat} {l:List (κ × ν)} {is:List Nat} {H:List HP} {C:HP→List HP} (hf:Foc H (mpi M bm r l is) C):∀ h,stars H h→(l.map (·.1)).Nodup := fun h hh=>by
  obtain ⟨F,hp,_⟩ := hf.focus
  obtain ⟨x,h1⟩ := stars_ex.1 (zbn hp _ hh)
  exact (stars_pur.1 (stars_star.1 h1)).1.2.1
theorem zpv {α:Type} {f:α→HP} {l l':List α} (h:l.map f=l'.map f):Go.VG.Own f l=Go.VG.Own f l' := by unfold Go.VG.Own; rw [h]
def metK (c:MH) (is:List Nat) (k:Nat):Bool := is.any fun i=>decide ((c.dl.getD i (ByteArray.empty,0)).2=c.bs k)
def rnX (c:MH) (n to:ByteArray) (is:List Nat) (k:Nat):DH × Dv := if (c.l.getD k (dh0,Dv.z)).2.gone || (c.l.getD k (dh0,Dv.z)).2.isB || metK c is k then ((c.l.getD k (dh0,Dv.z)).1,Md.renD n to (c.l.getD k (dh0,Dv.z)).2) else c.l.getD k (dh0,Dv.z)
def rnL (c:MH) (n to:ByteArray) (is:List Nat):List (DH × Dv) := (List.range c.l.length).map (rnX c n to is)
abbrev rnY (n to:ByteArray) (x:DH × Dv):DH × Dv := (x.1,Md.renD n to x.2)
def tabs2 (h:DH) (d:Dv) (n to:ByteArray) (q:Nat):HP := star [sl tyapi_Target h.lv.v (if 0 < q then Md.ren d.live n to else d.live),sl tyapi_Target h.nw.v (if 1 < q then Md.ren d.new n to else d.new)]
def zv7 (h:DH) (d:Dv) (n to:ByteArray) (q:Nat):HP := if q=0 then sl tyapi_Target h.nw.v d.new else sl tyapi_Target h.lv.v (Md.ren d.live n to)
abbrev tb2h (h:DH) (q:Nat):Sl3 := ([h.lv,h.nw]:List Sl3).getD q s3z
abbrev tb2l (d:Dv) (q:Nat):List api_Target := ([d.live,d.new]:List (List api_Target)).getD q []
section
variable {h:DH} {d:Dv} {n to:ByteArray} {q i:Nat} {R:List HP} {xs:List api_Target}
theorem zzh:Ent (sl tyapi_Target h.lv.v d.live::sl tyapi_Target h.nw.v d.new::R) (tabs2 h d n to 0::R) := fun _ hh=>stars_star.2 hh
theorem zzi:Ent (tabs2 h d n to 2::R) (sl tyapi_Target h.lv.v (Md.ren d.live n to)::sl tyapi_Target h.nw.v (Md.ren d.new n to)::R) := fun _ hh=>stars_star.1 hh
theorem zts (hq:q < 2):Ent (tabs2 h d n to q::R) (sl tyapi_Target (tb2h h q).v (tb2l d q)::zv7 h d n to q::R) := by
  match q,hq with
  | 0,_=>exact fun _ hh=>stars_star.1 hh
  | 1,_=>exact Ent.trans (fun _ hh=>stars_star.1 hh) (Ent.take del1 (Ent.take del0 Ent.refl))
theorem zv8 (hq:q < 2) (hi:(tb2l d q).length≤i):Ent (sl tyapi_Target (tb2h h q).v (Md.ren ((tb2l d q).take i) n to ++ (tb2l d q).drop i)::zv7 h d n to q::R) (tabs2 h d n to (q + 1)::R) := by
  rw [List.take_of_length_le hi,List.drop_of_length_le hi,List.append_nil]
  match q,hq with
  | 0,_=>exact fun _ hh=>stars_star.2 hh
  | 1,_=>exact Ent.trans (Ent.take del1 (Ent.take del0 Ent.refl)) (fun _ hh=>stars_star.2 hh)
theorem zr2:(Md.ren (xs.take i) n to ++ xs.drop i).length=xs.length := by rw [List.length_append,zl8,List.length_take,List.length_drop]; omega
theorem zob (hi:i < xs.length):(Md.ren (xs.take i) n to ++ xs.drop i).getD i tgt0=xs.getD i tgt0 := by
  have e:(Md.ren (xs.take i) n to).length=i := by rw [zl8,List.length_take]; omega
  simp [List.getD,List.getElem?_append_right (Nat.le_of_eq e),e,hi]
theorem zrj (hi:i < xs.length) (h:(xs.getD i tgt0).On≠n):Md.ren (xs.take i) n to ++ xs.drop i=Md.ren (xs.take (i + 1)) n to ++ xs.drop (i + 1) := by
  rw [takeD tgt0 hi,dropD tgt0 hi]
  unfold Md.ren
  rw [List.map_append,List.map_cons,if_neg h,List.map_nil,List.append_assoc]; rfl
theorem zr3 (hi:i < xs.length) (h:(xs.getD i tgt0).On=n):(Md.ren (xs.take i) n to ++ xs.drop i).set i { (Md.ren (xs.take i) n to ++ xs.drop i).getD i tgt0 with On := to } = Md.ren (xs.take (i + 1)) n to ++ xs.drop (i + 1) := by
  have e:(Md.ren (xs.take i) n to).length=i := by rw [zl8,List.length_take]; omega
  rw [zob hi,List.set_append_right _ _ (Nat.le_of_eq e),e,Nat.sub_self,dropD tgt0 hi,List.set_cons_zero,takeD tgt0 hi]
  unfold Md.ren
  rw [List.map_append,List.map_cons,if_pos h,List.map_nil,List.append_assoc]; rfl
end
section
variable {c:MH} {m:Md} {n to:ByteArray} {is:List Nat} {i j k:Nat} {p:ByteArray × Nat} {R:List HP}
theorem zv9 {a:Nat} {bs:Nat→Nat} {x:DH × Dv} (h:x.2.gone=true∨x.2.isB=true):DevC a bs (rnY n to x)=DevC a bs x := by
  obtain ⟨g,d⟩ := x
  cases hg:d.gone with
  | true =>
    unfold DevC
    rw [if_pos (show (rnY n to (g,d)).2.gone=true from hg),if_pos hg]
  | false =>
    have hb:d.isB=true := h.resolve_left (by show d.gone≠true; rw [hg]; decide)
    rw [ziw (d:=d) hg hb]
    exact ziw (d:=Md.renD n to d) hg hb
theorem rnL_0:Go.VG.Own (DevC c.a c.bs) c.l=Go.VG.Own (DevC c.a c.bs) (rnL c n to []) := zpv (by
  refine List.ext_getElem (by simp [rnL]) fun k h1 h2 => ?_
  have hk:k < c.l.length := by simpa using h1
  have e:c.l.getD k (dh0,Dv.z)=c.l[k] := by simp [List.getD,hk]
  simp only [rnL,List.getElem_map,List.getElem_range,rnX,metK,List.any_nil,Bool.or_false,e]
  split
  · rename_i h
    exact (zv9 (by simpa using h)).symm
  · rfl)
theorem zs4:(rnL c n to is).length=c.l.length := by simp [rnL]
theorem rnL_at (hk:k < c.l.length):(rnL c n to is).getD k (dh0,Dv.z)=rnX c n to is k := by simp [rnL,List.getD,hk]
theorem zzj (hW:MapWF c m) (hnd:(c.dl.map (·.1)).Nodup) (hil:∀ i ∈ is,i < c.dl.length) (hip:c.dl[i]? = some p) (hni:i ∉ is) (hj:m.isD j) (hjb:c.bs j=p.2):metK c is j=false := by
  rw [Bool.eq_false_iff]
  intro h
  obtain ⟨i2,h1,h2⟩ := List.any_eq_true.1 h
  have hl := hil i2 h1
  have hg:c.dl[i2]? = some c.dl[i2] := List.getElem?_eq_getElem hl
  obtain ⟨j2,q1,q2,q3⟩ := zn0 hW hnd hg
  obtain ⟨j3,r1,r2,r3⟩ := zn0 hW hnd hip
  have e1:c.bs j2=c.bs j := by rw [q2, ← of_decide_eq_true h2]; simp [List.getD,hl]
  have e2:j2=j := hW.inj j2 j q1 hj e1
  have e3:j3=j := hW.inj j3 j r1 hj (r2.trans hjb.symm)
  subst e2; subst e3
  have e4:c.dl[i2].1=p.1 := by rw [← (Md.find_lt (Md.dev_is q3).2).2.2, ← (Md.find_lt (Md.dev_is r3).2).2.2]
  have hil2 := (List.getElem?_eq_some_iff.1 hip).1
  have e5:c.dl[i]=p := (List.getElem?_eq_some_iff.1 hip).2
  have:i2=i := (List.getElem_inj (h₀:=by simpa using hl) (h₁:=by simpa using hil2) hnd).1 (by simp only [List.getElem_map]; rw [e4,e5])
  exact hni (this ▸ h1)
theorem rnX_no (hW:MapWF c m) (hj:m.isD j) (h:metK c is j=false):rnX c n to is j=(c.hd j,m.at j) := by
  obtain ⟨g1,g2⟩ := hW.at hj.1
  unfold rnX; rw [g2,h,hj.2.1,hj.2.2]; rfl
theorem zxz (hW:MapWF c m) (hj:m.isD j) (h:metK c is j=false):Ent (Go.VG.Own (DevC c.a c.bs) (rnL c n to is)::R) (blk (c.bs j) 111 (zdy (c.hd j) (m.at j))::sl tyapi_Target (c.hd j).lv.v (m.at j).live::sl tyapi_Target (c.hd j).nw.v (m.at j).new::sl tyErr (c.hd j).wt.v ((m.at j).wait.map (wC c.bs))::ORest (DevC c.a c.bs) (rnL c n to is) j::R) := fun g hh=>by
  obtain ⟨g1,g2⟩ := hW.at hj.1
  have e := zfr (DevC c.a c.bs) (l:=rnL c n to is) j (dh0,Dv.z) (by rw [zs4]; exact g1) (R:=R)
  rw [rnL_at g1,rnX_no hW hj h,zfy hj.2.1 hj.2.2] at e
  exact stars_star.1 (e g hh)
theorem zzk (hW:MapWF c m) (hj:m.isD j) (hjb:c.bs j=p.2) (hip:c.dl[i]? = some p):(rnL c n to is).set j (c.hd j,Md.renD n to (m.at j))=rnL c n to (is ++ [i]) := by
  refine List.ext_getElem (by simp [rnL]) fun k h1 h2 => ?_
  have hk:k < c.l.length := by simpa [rnL] using h2
  have ei:(c.dl.getD i (ByteArray.empty,0)).2=c.bs j := by rw [hjb]; simp [List.getD,hip]
  have em:∀ k,metK c (is ++ [i]) k=(metK c is k || decide (c.bs j=c.bs k)) := fun k=>by unfold metK; rw [List.any_append,List.any_cons,List.any_nil,Bool.or_false,ei]
  rw [List.getElem_set]
  simp only [rnL,List.getElem_map,List.getElem_range]
  obtain ⟨g1,g2⟩ := hW.at hj.1
  by_cases e:j=k
  · subst e
    rw [if_pos rfl]
    unfold rnX
    rw [em,g2]
    rw [if_pos (by simp)]
  · rw [if_neg e]
    unfold rnX
    rw [em]
    by_cases hb:c.bs j=c.bs k
    · have hlen:c.l.length=m.dv.length := by rw [← hW.dv]; simp
      have g3 := (hW.at (k:=k) (by omega)).2
      have hnd:¬ m.isD k := fun h=>e (hW.inj j k hj h hb)
      have:((m.at k).gone || (m.at k).isB)=true := by
        cases h3:(m.at k).gone with
        | true=>rfl
        | false =>
          cases h4:(m.at k).isB with
          | true=>rfl
          | false=>exact absurd ⟨by omega,h3,h4⟩ hnd
      rw [g3]
      simp only [this,Bool.true_or,if_true]
    · simp [hb]
theorem zwa (hW:MapWF c m) (hj:m.isD j) (hjb:c.bs j=p.2) (hip:c.dl[i]? = some p):Ent (blk (c.bs j) 111 (zdy (c.hd j) (m.at j))::sl tyapi_Target (c.hd j).lv.v (Md.ren (m.at j).live n to)::sl tyapi_Target (c.hd j).nw.v (Md.ren (m.at j).new n to)::sl tyErr (c.hd j).wt.v ((m.at j).wait.map (wC c.bs))::ORest (DevC c.a c.bs) (rnL c n to is) j::R) (Go.VG.Own (DevC c.a c.bs) (rnL c n to (is ++ [i]))::R) := fun g hh=>by
  obtain ⟨g1,g2⟩ := hW.at hj.1
  have e := zfs (f:=DevC c.a c.bs) (l:=rnL c n to is) (i:=j) (c.hd j,Md.renD n to (m.at j)) (by rw [zs4]; exact g1) (R:=R)
  rw [zfy (d:=Md.renD n to (m.at j)) hj.2.1 hj.2.2,zzk hW hj hjb hip] at e
  exact e g (stars_star.2 hh)
theorem zzl (hW:MapWF c m) (hall:∀ i,i < c.dl.length→i ∈ is):Go.VG.Own (DevC c.a c.bs) (rnL c n to is)=Go.VG.Own (DevC c.a c.bs) (c.l.map (rnY n to)) := by
  have:rnL c n to is=c.l.map (rnY n to) := by
    refine List.ext_getElem (by simp [rnL]) fun k h1 h2 => ?_
    have hk:k < c.l.length := by simpa using h2
    have hlen:c.l.length=m.dv.length := by rw [← hW.dv]; simp
    have g3 := (hW.at (k:=k) (by omega)).2
    have e:c.l.getD k (dh0,Dv.z)=c.l[k] := by simp [List.getD,hk]
    simp only [rnL,List.getElem_map,List.getElem_range]
    unfold rnX
    rw [if_pos,e]
    rw [g3]
    cases h3:(m.at k).gone with
    | true=>rfl
    | false =>
      cases h4:(m.at k).isB with
      | true=>rfl
      | false =>
        obtain ⟨i,hi⟩ := zvb hW (j:=k) ⟨by omega,h3,h4⟩
        exact List.any_eq_true.2 ⟨i,hall i (List.getElem?_eq_some_iff.1 hi).1,by simp [List.getD,hi]⟩
  rw [this]
theorem zx0 (hW:MapWF c m) (hj:m.isD j):Ent (Go.VG.Own (DevC c.a c.bs) (c.l.map (rnY n to))::R) (blk (c.bs j) 111 (zdy (c.hd j) (m.at j))::sl tyapi_Target (c.hd j).lv.v (Md.ren (m.at j).live n to)::sl tyapi_Target (c.hd j).nw.v (Md.ren (m.at j).new n to)::sl tyErr (c.hd j).wt.v ((m.at j).wait.map (wC c.bs))::ORest (DevC c.a c.bs) (c.l.map (rnY n to)) j::R) := fun g hh=>by
  obtain ⟨g1,g2⟩ := hW.at hj.1
  have e := zfr (DevC c.a c.bs) (l:=c.l.map (rnY n to)) j (rnY n to (dh0,Dv.z)) (by simpa using g1) (R:=R)
  rw [zlo,g2,zfy (d:=Md.renD n to (m.at j)) hj.2.1 hj.2.2] at e
  exact stars_star.1 (e g hh)
abbrev MH.rn (c:MH) (m:Md) (n to:ByteArray) (k:Nat):MH := { c with dl := setM (delM c.dl n) to (c.bs k),l := (c.l.map (rnY n to)).set k (c.hd k, { Md.renD n to (m.at k) with name := to }) }
theorem rn_hd (hW:MapWF c m) (hk:k < m.dv.length) (i:Nat):(c.rn m n to k).hd i=c.hd i := by
  obtain ⟨g1,g2⟩ := hW.at hk
  unfold MH.hd
  show (((c.l.map (rnY n to)).set k (c.hd k,_)).getD i (dh0,Dv.z)).1=_
  by_cases e:i=k
  · subst e
    simp [List.getD,g1,MH.hd]
  · have:((c.l.map (rnY n to)).set k (c.hd k, { Md.renD n to (m.at k) with name := to })).getD i (dh0,Dv.z)=(c.l.map (rnY n to)).getD i (dh0,Dv.z) := by simp [List.getD,List.getElem?_set,Ne.symm e]
    have e2 := zlo (rnY n to) c.l i (dh0,Dv.z)
    have e3 := congrArg Prod.fst (this.trans e2)
    exact e3
theorem rn_bs (hW:MapWF c m) (hk:k < m.dv.length):(c.rn m n to k).bs=c.bs := funext fun i=>by unfold MH.bs; rw [rn_hd hW hk]
theorem MapWF.rn (hW:MapWF c m) (hk:m.isD k) (hn:(m.at k).name=n) (hf:m.find to=none) (hto:to≠noN) (h1:(c.dl.map (·.1)).Nodup):MapWF (c.rn m n to k) (m.renS k n to) := by
  have hb := rn_bs (n:=n) (to:=to) hW hk.1
  have hh := rn_hd (n:=n) (to:=to) hW hk.1
  have hat := fun i=>Md.at_renS' (m:=m) (n:=n) (to:=to) hk.1 (i:=i)
  have hD:∀ i,(m.renS k n to).isD i↔m.isD i := fun i=>by unfold Md.isD; rw [Md.len_renS,(hat i).1,(hat i).2.1]
  have hS:∀ i,(m.renS k n to).isBs i↔m.isBs i := fun i=>by unfold Md.isBs; rw [Md.len_renS,(hat i).1,(hat i).2.1]
  have hB:(m.renS k n to).bas=m.bas := funext fun x=>by
    unfold Md.bas
    rw [Md.find_renS hW.ok hk hn hf]
    split
    · rename_i e; subst e
      rw [hf]; simp [(hat k).2.1,hk.2.2]
    · split
      · rename_i e; subst e
        have := Md.find_at hW.ok hk.1 hk.2.1
        rw [hn] at this
        rw [this]; simp [hk.2.2]
      · congr 1; funext i; rw [(hat i).2.1]
  refine ⟨?_,hW.ok.ren hk hn hf hto,hW.big.ren hk.1,fun x => ?_,fun x => ?_,fun i j hi hj he => ?_,hW.good,fun i hi => ?_,fun i j hi hj he => ?_,hW.wr⟩
  · show ((c.l.map (rnY n to)).set k (c.hd k,_)).map Prod.snd=(m.dv.set k { m.at k with name := to }).map (Md.renD n to)
    rw [List.map_set,List.map_map,List.map_set, ← hW.dv,List.map_map]
    rfl
  · rw [hb]
    show lookM (setM (delM c.dl n) to (c.bs k)) x=_
    rw [zjy,zjz _ _ _ h1,Md.dev_renS hW.ok hk hn hf]
    split
    · rfl
    · split
      · rfl
      · exact hW.dl x
  · rw [hb,hB]; exact hW.bl x
  · rw [hb] at he; exact hW.inj i j ((hD i).1 hi) ((hD j).1 hj) he
  · rw [hh,(hat i).2.2.2.1]; exact hW.dsk i ((hS i).1 hi)
  · rw [hh,hh] at he; exact hW.dsj i j ((hS i).1 hi) ((hS j).1 hj) he
theorem zr4 (hO:MdOk m):m.names.Nodup := by
  rw [Md.names_range]
  unfold List.Nodup
  rw [List.pairwise_map]
  refine List.Pairwise.imp_of_mem (R:=fun a b=>a≠b) (fun {a b} ha hb hne he => ?_) (List.Pairwise.filter _ List.nodup_range)
  obtain ⟨a1,a2⟩ := List.mem_filter.1 ha
  obtain ⟨b1,b2⟩ := List.mem_filter.1 hb
  exact hne (hO.uniq a b (List.mem_range.1 a1) (List.mem_range.1 b1) (by simpa using a2) (by simpa using b2) he)
theorem zwb (h:(m.find n).isSome=true):0≤idxS m.names n∧(idxS m.names n).toNat < m.names.length∧m.names.getD (idxS m.names n).toNat ByteArray.empty=n := by
  have h1:n ∈ m.names := Md.names_mem.2 h
  have h2 := idxS_mem.2 h1
  refine ⟨h2,?_⟩
  unfold idxS at h2 ⊢
  cases hf:m.names.findIdx? (fun y=>decide (y=n)) with
  | none=>rw [hf] at h2; exact absurd h2 (by decide)
  | some j =>
    obtain ⟨g1,g2,_⟩ := List.findIdx?_eq_some_iff_getElem.1 hf
    refine ⟨by simpa using g1,?_⟩
    simp only [Int.toNat_natCast]
    simp [List.getD,g1]; exact of_decide_eq_true g2
theorem zwc (hO:MdOk m) (hk:m.isD k) (hn:(m.at k).name=n) (h:(m.find n).isSome=true):m.names.set (idxS m.names n).toNat to=(m.renS k n to).names := by
  rw [Md.names_renS hO hk hn]
  obtain ⟨_,h1,h2⟩ := zwb h
  have hnd := zr4 hO
  refine List.ext_getElem (by simp) fun i g1 g2 => ?_
  rw [List.getElem_set,List.getElem_map]
  have hi:i < m.names.length := by simpa using g2
  have e:m.names[(idxS m.names n).toNat]=n := by simpa [List.getD,h1] using h2
  by_cases he:(idxS m.names n).toNat=i
  · subst he; rw [if_pos rfl,if_pos e]
  · rw [if_neg he,if_neg]
    intro e2
    exact he ((List.getElem_inj (h₀:=h1) (h₁:=hi) hnd).1 (e.trans e2.symm))
theorem zx1 (hW:MapWF c m) (hk:m.isD k) (hn:(m.at k).name=n) (hfd:m.find n=some k) (hf:m.find to=none) (hto:to≠noN) (h1:(c.dl.map (·.1)).Nodup) :
    Ent (blk (c.bs k) 111 (zdy (c.hd k) { Md.renD n to (m.at k) with name := to })::sl tyapi_Target (c.hd k).lv.v (Md.ren (m.at k).live n to)::sl tyapi_Target (c.hd k).nw.v (Md.ren (m.at k).new n to)::sl tyErr (c.hd k).wt.v ((m.at k).wait.map (wC c.bs))::ORest (DevC c.a c.bs) (c.l.map (rnY n to)) k ::
      mpc mBas c.bm c.bl::mpc mDev c.dm (setM (delM c.dl n) to (c.bs k))::sl tyS c.ov.v (m.names.set (idxS m.names n).toNat to)::sl tyapi_Answer c.tv.v m.told::Arr c.a c.s::R) (MapR (c.rn m n to k) (m.renS k n to)::R) := fun g hh=>by
  have hw := hW.rn hk hn hf hto h1
  have hb := rn_bs (n:=n) (to:=to) hW hk.1
  obtain ⟨g1,g2⟩ := hW.at hk.1
  have e := zfs (f:=DevC c.a c.bs) (l:=c.l.map (rnY n to)) (i:=k) (c.hd k, { Md.renD n to (m.at k) with name := to }) (by simpa using g1) (R:=mpc mBas c.bm c.bl::mpc mDev c.dm (setM (delM c.dl n) to (c.bs k))::sl tyS c.ov.v (m.names.set (idxS m.names n).toNat to)::sl tyapi_Answer c.tv.v m.told::Arr c.a c.s::R)
  rw [zfy (d := { Md.renD n to (m.at k) with name := to }) hk.2.1 hk.2.2] at e
  have e2 := e g (stars_star.2 hh)
  refine stars_star.2 (stars_pur.2 ⟨hw,?_⟩)
  rw [← zwc hW.ok hk hn (by rw [hfd]; rfl),hb]
  exact zbn (show List.Perm (Go.VG.Own (DevC c.a c.bs) ((c.l.map (rnY n to)).set k (c.hd k, { Md.renD n to (m.at k) with name := to }))::([mpc mBas c.bm c.bl,mpc mDev c.dm (setM (delM c.dl n) to (c.bs k)),sl tyS c.ov.v (m.names.set (idxS m.names n).toNat to),sl tyapi_Answer c.tv.v m.told] ++ (Arr c.a c.s::R))) _ from (List.perm_middle (l₁:=[_,_,_,_])).symm) _ e2
end
theorem zwd {W:World} {q:Nat} {h:DH} {d:Dv} :
    CSpec Tryz.prog W 63 [ptr q 0] [blk q 111 (zdy h d)] (fun x:Sl3=>x.v) (fun _=>True) (fun x F=>sl tyTs x.v [h.lv,h.nw]::blk q 111 (zdy h d)::F) := by
 refine CSpec.of_body Tryz.func63 rfl Tryz.ntmps63 rfl fun F => ?_
 show CJ _ _ _ _ _ _ (_::F)
 refine sR <| oA rfl rfl <| nT <| zad <| za4 256 (by kernel_rfl) rfl <| aN 0 1 rfl rfl (zah rfl) rfl <| aN 1 3 rfl rfl (zaf rfl) rfl <| aN 2 7 rfl rfl (zaa rfl ⟨_,_,_,Tryz.runUnderlying111,rfl,rfl,Tryz.sizeOf30,rfl⟩) rfl <| aV 3 15 rfl rfl (zac rfl) (t0_ eR) (zag rfl foc0 rfl Tryz.isAgg30) rfl <| aN 4 31 rfl rfl (zah rfl) rfl <| aN 5 63 rfl rfl (zaf rfl) rfl <| aN 6 127 rfl rfl (zaa rfl ⟨_,_,_,Tryz.runUnderlying111,rfl,rfl,Tryz.sizeOf30,rfl⟩) rfl <| aV 7 255 rfl rfl (zac rfl) (t0_ eR) (zag rfl foc0 rfl Tryz.isAgg30) rfl <| AJ_op 8 511 rfl (by kernel_rfl) rfl (zac rfl) <| za7 rfl (zkn _ _ _ _ _ _) rfl fun b1=>⟨fun h=>absurd h (by decide),?_⟩
 refine aN 9 1023 rfl rfl (zbc rfl) rfl <| aD <| zaj <| zan (res1 Tryz.results63 rfl) <| CSpec.close ⟨some ⟨b1,0,none⟩,2,2⟩ ?_ ?_ (Ent.trans (Ent.trans (t0_ eR) (zcd (t:=tyTs) (m:=2) [h.lv,h.nw] rfl rfl rfl (by decide))) (t0_ (t0_ eR)))
 · rfl
 · trivial
theorem zx2 {W:World} {b:Nat} {c:MH} {m:Md} {n to:ByteArray} :
    CSpec Tryz.prog W 26 [ptr b 0,.string n,.string to] [blk b 84 (za3 c m),MapR c m] (fun _:MH => .int .i64 (m.rnE n to)) (fun _=>True) (fun c2 F=>blk b 84 (za3 c2 (m.rnS n to))::MapR c2 (m.rnS n to)::F) := by
 refine CSpec.of_body Tryz.func26 rfl Tryz.ntmps26 rfl fun F => ?_
 show CJ _ _ _ _ _ _ (_::_::F)
 refine zba (zb4 foc1) fun hW => ?_
 have hO := hW.ok
 have hns := Md.names_len (m:=m)
 have hln := hW.big.len
 refine sR <| oA rfl rfl <| nT <| sR <| oM rfl rfl <| oP (zaf rfl) rfl <| oP (zaa rfl ⟨_,_,_,Tryz.runUnderlying84,rfl,rfl,Tryz.sizeOf82,rfl⟩) rfl <| oV (zag rfl foc0 rfl Tryz.isAgg82) rfl <| oM rfl rfl <| oO (zeb rfl rfl foc1 rfl (fun hd2 => ?_) (fun k1 hd2 => ?_))
 ·
  refine oA rfl rfl <| nT <| zad <| sR <| oM rfl rfl <| oP (zgk rfl rfl Tryz.underlying85) rfl <| nT <| zbk rfl rfl <| sR <| oA rfl rfl <| nT <| zaj <| zae <| zan (res1 Tryz.results26 rfl) ?_
  have e1:m.rnE n to=12∧m.rnS n to=m := by unfold Md.rnE Md.rnS; rw [hd2]; exact ⟨rfl,rfl⟩
  refine CSpec.close c ?_ ?_ (Ent.takeC del0 (by rw [e1.2]) (Ent.takeC del0 (by rw [e1.2]) eR))
  · rw [e1.1]
  · trivial
 ·
  refine oA rfl rfl <| nT <| zad <| sR <| oM rfl rfl <| oP (zd3 rfl rfl Tryz.underlying85) rfl <| nT <| zbf rfl rfl <| kT <| zad <| sR <| oM rfl rfl <| oM rfl rfl <| oO <| zaq (zsx rdOrd (by omega)) rfl Tryz.call62 (Dels.cons del1 (Dels.cons del0 Dels.nil)) rfl fun _ hc3=>oA rfl rfl <| nT <| sR <| oM rfl rfl <| oP (P_neq rfl rfl) rfl <| nT ?_
  first | (refine zao rfl (fun hg1 => ?_) (fun hg1 => ?_)) | (refine zap rfl (fun hg1 => ?_) (fun hg1 => ?_)) | (refine zar rfl (fun hg1 => ?_) (fun hg1 => ?_))
  ·
   refine sR <| oM rfl rfl <| oA rfl rfl <| nT <| zaj <| zae <| zan (res1 Tryz.results26 rfl) ?_
   have e0:m.rnE n to=m.freshE to := by unfold Md.rnE; rw [hd2]
   have e1 := Md.rnS_no (m:=m) (n:=n) (to:=to) (by rw [e0]; assumption)
   refine CSpec.close c ?_ ?_ (Ent.takeC del1 (by rw [e1]) (Ent.takeC del0 (by rw [e1]) eR))
   · rw [e0]
   · trivial
  ·
   refine kT <| zad <| zad ?_
   have hdk := Md.dev_is hd2
   have hfr := Md.fresh_ok (m:=m) (to:=to) (by simp_all)
   have hfe:m.freshE to=0 := by simp_all
   refine zbd (Ent.trans (t0_ eR) zgr) <| zai <| oM rfl rfl <| oP (zaf rfl) rfl <| oP (zaa rfl ⟨_,_,_,Tryz.runUnderlying84,rfl,rfl,Tryz.sizeOf82,rfl⟩) rfl <| oV (zag rfl foc6 rfl Tryz.isAgg82) rfl <| oO <| zqo rfl foc1 zgq rfl fun ri4=>nT <| zas <| zbe (X:=List Nat) [10,12,13,33,34,35,36,37,38,39,40,41,42,43,44,45,46,47,48,49,50,51,52,53,54,55,56,57,58,59,60,61,62] (fun is  => ([]:Slots)) (fun is R=>mpi mDev c.dm ri4 c.dl is::Go.VG.Own (DevC c.a c.bs) (rnL c n to is)::R) (fun is  => is.Nodup∧(∀ i ∈ is,i < c.dl.length)) (fun is  => c.dl.length - is.length) ([]) ?_ ?_ (t1_ (Ent.takeC del3 (rnL_0 (n:=n) (to:=to)) (t0_ (t0_ (t0_ (t0_ (t0_ eR))))))) ?_
   · exact ⟨List.nodup_nil,fun i h=>by cases h⟩
   · exact True.intro
   ·
    intro is hpf
    obtain ⟨hin,hil⟩ := hpf
    show CJ _ _ _ _ _ (([]:Slots) ++ forget _ _) (mpi mDev c.dm ri4 c.dl is::Go.VG.Own (DevC c.a c.bs) (rnL c n to is)::_)
    refine sR <| oO (zsi rfl foc0 rfl (fun hall => ?_) (fun i0 p hip hni => ?_))
    ·
     refine oP (za1 rfl rfl) rfl <| nT <| zad <| zbf rfl rfl <| zbg <| zaw <| zav <| zau <| zat <| zad ?_
     have hsn:(m.find n).isSome=true := by rw [hdk.2]; rfl
     have hix := zwb hsn
     refine zbd (Ent.trans (t0_ eR) zit) <| zbd (t0_ (Ent.takeC del0 (zzl (n:=n) (to:=to) hW hall) (t0_ (t0_ (t0_ (t0_ (t0_ eR))))))) <| zbd (Ent.trans (t1_ eR) (zx0 (n:=n) (to:=to) hW hdk.1)) <| zba (zlj foc5) fun hnd9=>zai <| oM rfl rfl <| oP (zaf rfl) rfl <| oP (zaa rfl ⟨_,_,_,Tryz.runUnderlying84,rfl,rfl,Tryz.sizeOf82,rfl⟩) rfl <| oV (zag rfl foc10 rfl Tryz.isAgg82) rfl <| oM rfl rfl <| oO <| zfq (M:=mDev) (k:=n) rfl rfl foc5 zgq <| nT <| sR <| oM rfl rfl <| oP (zaf rfl) rfl <| oP (zaa rfl ⟨_,_,_,Tryz.runUnderlying84,rfl,rfl,Tryz.sizeOf82,rfl⟩) rfl <| oV (zag rfl foc10 rfl Tryz.isAgg82) rfl <| oM rfl rfl <| oM rfl rfl <| oO <| ze0 (M:=mDev) (k:=to) (v:=c.bs k1) rfl rfl rfl foc5 zgq <| nT <| sR <| oM rfl rfl <| oM rfl rfl <| oP (zaf rfl) rfl <| oP (zaa rfl ⟨_,_,_,Tryz.runUnderlying111,rfl,rfl,Tryz.sizeOf9,rfl⟩) rfl <| oO <| zbh rfl rfl foc0 rfl rfl Tryz.sizeOf9 <| nT <| zad <| za4 6144 (by kernel_rfl) rfl <| aN 0 1 rfl rfl (zah rfl) rfl <| aN 1 3 rfl rfl (zaf rfl) rfl <| aN 2 7 rfl rfl (zaa rfl ⟨_,_,_,Tryz.runUnderlying84,rfl,rfl,Tryz.sizeOf59,rfl⟩) rfl ?_
     refine aV 3 15 rfl rfl (zac rfl) (t0_ (t0_ (t0_ (t0_ (t0_ (t0_ (t0_ (t0_ (t0_ (t0_ (t0_ eR))))))))))) (zag rfl foc10 rfl Tryz.isAgg59) rfl <| aN 4 31 rfl rfl (zah rfl) rfl <| aN 5 63 rfl rfl (zaf rfl) rfl <| aN 6 127 rfl rfl (zaa rfl ⟨_,_,_,Tryz.runUnderlying84,rfl,rfl,Tryz.sizeOf59,rfl⟩) rfl <| aV 7 255 rfl rfl (zac rfl) (t0_ (t0_ (t0_ (t0_ (t0_ (t0_ (t0_ (t0_ (t0_ (t0_ (t0_ eR))))))))))) (zag rfl foc10 rfl Tryz.isAgg59) rfl <| aN 8 511 rfl rfl (zah rfl) rfl <| aN 10 1535 rfl rfl (zah rfl) rfl <| AJ_op 9 2047 rfl (by kernel_rfl) rfl (zac rfl) <| zaq (zgo (Reads.sl _ _ _) (zqk (by first | assumption | omega))) rfl Tryz.call64 (Dels.cons del7 Dels.nil) rfl fun _ hc5=>⟨fun _=>(t1_ (t1_ (t1_ (t1_ (t1_ (t1_ (t1_ (t0_ (t0_ (t0_ (t0_ eR))))))))))),?_⟩
     refine AJ_op 11 4095 rfl (by kernel_rfl) rfl (zac rfl) <| OJ_V (zal rfl rfl (Int.toNat_of_nonneg hix.1).symm (by exact hix.2.1) foc0 (Reads.sl _ _ _) Tryz.runUnderlying59 Tryz.sizeOf9) rfl <| ⟨fun h=>absurd h (by decide),?_⟩
     refine AJ_op 12 8191 rfl (by kernel_rfl) rfl (zac rfl) <| zb3 (x' := to) rfl rfl rfl (by omega) foc0 rfl rfl rfl Tryz.sizeOf9 <| ⟨fun h=>absurd h (by decide),?_⟩
     refine aD <| sR <| oA rfl rfl <| nT <| zaj <| zan (res1 Tryz.results26 rfl) ?_
     have e1 := Md.rnS_ok hd2 hfe
     rw [e1.2]
     refine CSpec.close (c.rn m n to k1) ?_ ?_ (Ent.trans (Ent.trans (t1_ (t1_ (t1_ (t1_ (t1_ (t2_ (t1_ (t0_ (t0_ (t0_ eR)))))))))) (zx1 hW hdk.1 (Md.find_lt hdk.2).2.2 hdk.2 hfr.2.2.1 hfr.2.2.2 hnd9)) (t1_ (t0_ eR)))
     · rw [e1.1]
     · trivial
    ·
     refine oP (za1 rfl rfl) rfl <| nT <| zad <| zbk rfl rfl <| kT <| zas <| zad <| zba (mpi_nd foc0) fun hnd => ?_
     obtain ⟨j,hj,hjb,hjn⟩ := zn0 hW hnd hip
     have hmk := zzj hW hnd hil hip hni hj hjb
     refine zai <| oV (VJ_eq (zqp rfl foc0 hip) (show Value.tuple #[.string p.1,ptr (c.bs j) 0]=Value.tuple #[.string p.1,ptr p.2 0] by rw [hjb])) rfl <| oP (za1 rfl rfl) rfl <| oA rfl rfl <| nT <| zad <| zbd (Ent.trans (t1_ eR) (zxz (n:=n) (to:=to) hW hj hmk)) <| zai <| oM rfl rfl <| oO <| zaq (zwd) rfl Tryz.call63 (Dels.cons del0 Dels.nil) rfl fun _ hc7=>oV (V_len rfl foc0 (Reads.sl _ _ _) Tryz.runUnderlying119) rfl <| oM rfl rfl <| nT <| zas <| zbd (Ent.trans (t2_ (t2_ eR)) (zzh (n:=n) (to:=to))) <| zbe (X:=Nat) [12,13,40,41,42,43,44,45,46,47,48,49,50,51,52,53,54,55,56,57,58,59,60,61,62] (fun q  => ([(40,.int .i64 (q:Nat))]:Slots)) (fun q R=>tabs2 (c.hd j) (m.at j) n to q::R) (fun q  => q≤2) (fun q  => 2 - q) (0) ?_ ?_ (t0_ (t0_ (t0_ (t0_ (t0_ (t0_ (t0_ (t0_ (t0_ (t0_ (t0_ eR))))))))))) ?_
     · exact Nat.zero_le _
     · exact ⟨rfl,True.intro⟩
     ·
      intro q hq2
      show CJ _ _ _ _ _ (([(40,.int .i64 (q:Nat))]:Slots) ++ forget _ _) (tabs2 (c.hd j) (m.at j) n to q::_)
      have hn2:([(c.hd j).lv,(c.hd j).nw]:List Sl3).length=2 := rfl
      refine sR <| oP (P_lss rfl rfl) rfl <| nT <| zad ?_
      first | (refine zao rfl (fun hg2 => ?_) (fun hg2 => ?_)) | (refine zap rfl (fun hg2 => ?_) (fun hg2 => ?_)) | (refine zar rfl (fun hg2 => ?_) (fun hg2 => ?_))
      ·
       refine kT <| zad <| zas <| zad ?_
       have hq:q < 2 := by omega
       refine zbd (Ent.trans (t0_ eR) (zts hq)) ?_
       have htl:(tb2l (m.at j) q).length≤64 := by
         have h1 := (zbx (hO.chk j).1).1
         have h2 := (zbx (hO.chk j).2).1
         match q,hq with
         | 0,_=>exact h1
         | 1,_=>exact h2
       refine zai ?_
       first | (refine RJ_op rfl (OJ_V (zal rfl rfl rfl (by omega) foc2 (Reads.sl _ _ _) Tryz.runUnderlying119 Tryz.sizeOf30) rfl ?_)) | (refine RJ_op rfl (OJ_V (zal rfl rfl (Int.toNat_of_nonneg (by omega)).symm (by omega) foc2 (Reads.sl _ _ _) Tryz.runUnderlying119 Tryz.sizeOf30) rfl ?_))
       refine oV (zaz rfl rfl (by omega) foc2 (Reads.sl _ _ _) rfl rfl Tryz.isAgg30) rfl <| oA rfl rfl <| nT <| sR <| oM rfl rfl <| oV (V_len rfl foc0 (Reads.sl _ _ _) Tryz.runUnderlying30) rfl <| oM rfl rfl <| nT <| zas <| zbe (X:=Nat) [13,46,47,48,49,50,51,52,53,54,55,56,57,58,59,60,61] (fun i  => ([(46,.int .i64 (i:Nat))]:Slots)) (fun i R=>sl tyapi_Target (tb2h (c.hd j) q).v (Md.ren ((tb2l (m.at j) q).take i) n to ++ (tb2l (m.at j) q).drop i)::R) (fun i  => i≤(tb2l (m.at j) q).length) (fun i  => (tb2l (m.at j) q).length - i) (0) ?_ ?_ (Ent.takeC del0 (congrArg (sl tyapi_Target _) (by simp [Md.ren])) (t0_ (t0_ (t0_ (t0_ (t0_ (t0_ (t0_ (t0_ (t0_ (t0_ (t0_ eR)))))))))))) ?_
       · exact Nat.zero_le _
       · exact ⟨rfl,True.intro⟩
       ·
        intro i hi
        show CJ _ _ _ _ _ (([(46,.int .i64 (i:Nat))]:Slots) ++ forget _ _) (sl tyapi_Target (tb2h (c.hd j) q).v (Md.ren ((tb2l (m.at j) q).take i) n to ++ (tb2l (m.at j) q).drop i)::_)
        have hrl := zr2 (n:=n) (to:=to) (xs:=tb2l (m.at j) q) (i:=i)
        refine sR <| oP (P_lss rfl rfl) rfl <| nT <| zad ?_
        first | (refine zao rfl (fun hg3 => ?_) (fun hg3 => ?_)) | (refine zap rfl (fun hg3 => ?_) (fun hg3 => ?_)) | (refine zar rfl (fun hg3 => ?_) (fun hg3 => ?_))
        ·
         refine kT <| zad <| zas <| sR <| oM rfl rfl <| oA rfl rfl <| nT <| zad ?_
         have hlt:i < (tb2l (m.at j) q).length := by omega
         have hra := zob (n:=n) (to:=to) hlt
         refine zai <| oM rfl rfl <| oM rfl rfl ?_
         first | (refine RJ_op rfl (OJ_V (zal rfl rfl rfl (by omega) foc0 (Reads.sl _ _ _) Tryz.runUnderlying30 Tryz.sizeOf37) rfl ?_)) | (refine RJ_op rfl (OJ_V (zal rfl rfl (Int.toNat_of_nonneg (by omega)).symm (by omega) foc0 (Reads.sl _ _ _) Tryz.runUnderlying30 Tryz.sizeOf37) rfl ?_))
         refine oP (zay rfl ⟨_,_,_,Tryz.runUnderlying37,rfl,rfl,Tryz.sizeOf9,rfl⟩) rfl <| oV (zaz rfl rfl (by omega) foc0 (Reads.sl _ _ _) rfl rfl Tryz.isAgg9) rfl <| oM rfl rfl <| oP (zcj rfl rfl Tryz.underlying9) rfl <| nT ?_
         first | (refine zao rfl (fun hg4 => ?_) (fun hg4 => ?_)) | (refine zap rfl (fun hg4 => ?_) (fun hg4 => ?_)) | (refine zar rfl (fun hg4 => ?_) (fun hg4 => ?_))
         ·
          refine zai <| oM rfl rfl <| oM rfl rfl <| oM rfl rfl ?_
          first | (refine RJ_op rfl (OJ_V (zal rfl rfl rfl (by omega) foc0 (Reads.sl _ _ _) Tryz.runUnderlying30 Tryz.sizeOf37) rfl ?_)) | (refine RJ_op rfl (OJ_V (zal rfl rfl (Int.toNat_of_nonneg (by omega)).symm (by omega) foc0 (Reads.sl _ _ _) Tryz.runUnderlying30 Tryz.sizeOf37) rfl ?_))
          refine oP (zay rfl ⟨_,_,_,Tryz.runUnderlying37,rfl,rfl,Tryz.sizeOf9,rfl⟩) rfl <| oO <| zb3 (x' := { (Md.ren ((tb2l (m.at j) q).take i) n to ++ (tb2l (m.at j) q).drop i).getD i tgt0 with On := to }) rfl rfl rfl (by omega) foc0 rfl rfl rfl Tryz.sizeOf9 <| za0 <| zak <| zat <| zai <| oP (P_add rfl rfl (by omega)) rfl <| oM rfl rfl <| za0 <| za6 (i + 1) (by first | omega | (simp only []; omega)) ?_ (by repeat (first | exact Kp.base | exact Kp.self | refine Kp.cons rfl ?_ | refine Kp.forget rfl ?_)) ?_ (Ent.takeC del0 (congrArg (sl tyapi_Target _) (zr3 hlt (by rw [← hra]; assumption))) (t0_ (t0_ (t0_ (t0_ (t0_ (t0_ (t0_ (t0_ (t0_ (t0_ (t0_ eR))))))))))))
          · omega
          · exact ⟨rfl,True.intro⟩
         ·
          refine za8 <| zak <| zat <| zai <| oP (P_add rfl rfl (by omega)) rfl <| oM rfl rfl <| za0 <| za6 (i + 1) (by first | omega | (simp only []; omega)) ?_ (by repeat (first | exact Kp.base | exact Kp.self | refine Kp.cons rfl ?_ | refine Kp.forget rfl ?_)) ?_ (Ent.takeC del0 (congrArg (sl tyapi_Target _) (zrj hlt (by rw [← hra]; assumption))) (t0_ (t0_ (t0_ (t0_ (t0_ (t0_ (t0_ (t0_ (t0_ (t0_ (t0_ eR))))))))))))
          · omega
          · exact ⟨rfl,True.intro⟩
        ·
         refine zbg <| zaw <| zav <| zau <| zak <| zat <| zai <| oP (P_add rfl rfl (by omega)) rfl <| oM rfl rfl <| za0 <| za6 (q + 1) (by first | omega | (simp only []; omega)) ?_ (by repeat (first | exact Kp.base | exact Kp.self | refine Kp.cons rfl ?_ | refine Kp.forget rfl ?_)) ?_ (Ent.trans (Ent.trans (t0_ (t0_ eR)) (zv8 hq (by omega))) (t0_ (t0_ (t0_ (t0_ (t0_ (t0_ (t0_ (t0_ (t0_ (t0_ (t0_ eR))))))))))))
         · omega
         · exact ⟨rfl,True.intro⟩
      ·
       refine zbg <| zaw <| zav <| zau <| zak ?_
       obtain rfl:q=2 := by omega
       refine za6 (is ++ [i0]) (by have := is_lt hin hil hni (List.getElem?_eq_some_iff.1 hip).1; simp only [List.length_append,List.length_cons,List.length_nil]; omega) ?_ (by repeat (first | exact Kp.base | exact Kp.self | refine Kp.cons rfl ?_ | refine Kp.forget rfl ?_)) ?_ (Ent.trans (Ent.trans (t0_ eR) zzi) (Ent.trans (Ent.trans (t3_ (t0_ (t0_ (t1_ (t1_ eR))))) (zwa hW hj hjb hip)) (t2_ (t0_ (t1_ (t1_ (t1_ (t1_ (t1_ (eD eR))))))))))
       ·
        refine ⟨List.nodup_append.2 ⟨hin,(by simp),fun a ha b hb he=>hni (by rw [List.mem_singleton] at hb; rw [← hb, ← he]; exact ha)⟩,fun j2 hj2 => ?_⟩
        rcases List.mem_append.1 hj2 with h | h
        · exact hil j2 h
        · rw [List.mem_singleton] at h; subst h; exact (List.getElem?_eq_some_iff.1 hip).1
       · exact True.intro
end Go.Proofs
set_option linter.unusedSimpArgs false
set_option maxRecDepth 20000
namespace Go.Proofs
open Go.VG
theorem zrk {α β:Type} {f:α→β} {l:List α} {k:Nat} {x d:α} (hk:k < l.length) (h:f x=f (l.getD k d)):l.map f=(l.set k x).map f := by
  rw [List.map_set,h]
  have e:f (l.getD k d)=(l.map f)[k]'(by simpa using hk) := by simp [List.getD,hk]
  rw [e,List.set_getElem_self]
def rrX (m:Md) (k:Nat) (n to:ByteArray) (i q:Nat):Dv := if q < i then Md.renD n to (if q=k then { m.at k with name := to } else m.at q) else if q=k then { m.at k with name := to } else m.at q
theorem zrl {m:Md} {k:Nat} {n to:ByteArray} {i q:Nat} (h:q < i):rrX m k n to i q=Md.renD n to (rrX m k n to 0 q) := by unfold rrX; rw [if_pos h,if_neg (Nat.not_lt_zero q)]
theorem zrm {m:Md} {k:Nat} {n to:ByteArray} {i q:Nat} (h:¬ q < i):rrX m k n to i q=rrX m k n to 0 q := by unfold rrX; rw [if_neg h,if_neg (Nat.not_lt_zero q)]
def RrOk (c:RH) (m:Md) (k:Nat) (n to:ByteArray) (i:Nat) (l:List (RD × Dv)):Prop := l.length=m.dv.length ∧ ∀ q,q < m.dv.length→(l.getD q tyDv.dflt).2=rrX m k n to i q
section
variable {c:RH} {m:Md} {k i:Nat} {n to:ByteArray} {l:List (RD × Dv)} {R:List HP}
theorem rr_0 (hW:RefWF c m) (hk:k < m.dv.length):RrOk c m k n to 0 (c.l.set k ((c.l.getD k tyDv.dflt).1, { (c.l.getD k tyDv.dflt).2 with name := to })) := by
  have hl := hW.len
  refine ⟨by rw [List.length_set]; exact hl,fun q hq => ?_⟩
  unfold rrX
  rw [if_neg (by omega)]
  by_cases e:q=k
  · subst e; rw [if_pos rfl,stq (by omega),hd_at hW]
  · rw [if_neg e]
    have:(c.l.set k ((c.l.getD k tyDv.dflt).1, { (c.l.getD k tyDv.dflt).2 with name := to })).getD q tyDv.dflt=c.l.getD q tyDv.dflt := by simp [List.getD,List.getElem?_set,Ne.symm e]
    rw [this]; exact hW.at q
theorem zzm (h:RrOk c m k n to i l) (hi:i < m.dv.length) {g:RD} : RrOk c m k n to (i + 1) (l.set i (g,Md.renD n to (l.getD i tyDv.dflt).2)) := by
  refine ⟨by rw [List.length_set]; exact h.1,fun q hq => ?_⟩
  by_cases e:q=i
  · subst e
    rw [stq (by rw [h.1]; exact hi),h.2 q hi,zrm (Nat.lt_irrefl q),zrl (Nat.lt_succ_self q)]
  · have e2:(l.set i (g,Md.renD n to (l.getD i tyDv.dflt).2)).getD q tyDv.dflt=l.getD q tyDv.dflt := by simp [List.getD,List.getElem?_set,Ne.symm e]
    rw [e2,h.2 q hq]
    by_cases h1:q < i
    · rw [zrl h1,zrl (Nat.lt_succ_of_lt h1)]
    · rw [zrm h1,zrm (i:=i + 1) (by omega)]
theorem rr_end (h:RrOk c m k n to m.dv.length l) (hk:k < m.dv.length):l.map Prod.snd=(m.renS k n to).dv := by
  refine List.ext_getElem (by rw [List.length_map,h.1,Md.len_renS]) fun q h1 h2 => ?_
  have hq:q < m.dv.length := by rw [List.length_map,h.1] at h1; exact h1
  have e1 := h.2 q hq
  have e2:(l.getD q tyDv.dflt)=l[q]'(by rw [h.1]; exact hq) := by simp [List.getD,h.1,hq]
  rw [List.getElem_map, ← e2,e1]
  unfold rrX
  rw [if_pos hq, ← Md.at_renS hk]
  rw [Md.len_renS] at *
  simp [Md.at,List.getD,Md.len_renS,hq]
theorem RrOpen (hi:i < l.length):Ent (Go.VG.Own RowC l::R) (sl tyU (l.getD i tyDv.dflt).1.ba.v (l.getD i tyDv.dflt).2.base::sl tyapi_Target (l.getD i tyDv.dflt).1.lv.v (l.getD i tyDv.dflt).2.live::sl tyapi_Target (l.getD i tyDv.dflt).1.nw.v (l.getD i tyDv.dflt).2.new::sl tyWt (l.getD i tyDv.dflt).1.wt.v (l.getD i tyDv.dflt).2.wait::ORest RowC l i::R) := fun g hh=>stars_star.1 (zfr RowC i tyDv.dflt hi g hh)
theorem zzn {h:RD} {d:Dv} (hi:i < l.length):Ent (sl tyU h.ba.v d.base::sl tyapi_Target h.lv.v d.live::sl tyapi_Target h.nw.v d.new::sl tyWt h.wt.v d.wait::ORest RowC l i::R) (Go.VG.Own RowC (l.set i (h,d))::R) := fun g hh=>zfs (f:=RowC) (l:=l) (i:=i) (h,d) hi g (stars_star.2 hh)
theorem rr_len (hO:MdOk m) (h:RrOk c m k n to i l) (hi:i < m.dv.length):(l.getD i tyDv.dflt).2.live.length≤64∧(l.getD i tyDv.dflt).2.new.length≤64 := by
  rw [h.2 i hi]
  unfold rrX
  rw [if_neg (by omega)]
  have h1 := (zbx (hO.chk i).1).1
  have h2 := (zbx (hO.chk i).2).1
  split
  · rename_i e; subst e; exact ⟨h1,h2⟩
  · exact ⟨h1,h2⟩
theorem zx3 (hW:RefWF c m) (hk:m.isD k) (hn:(m.at k).name=n) (hf:m.find to=none) (hto:to≠noN) (h:RrOk c m k n to m.dv.length l):Ent (sl tyDv c.dv.v l::sl tyapi_Answer c.tv.v m.told::Go.VG.Own RowC l::R) (RefR { c with l := l } (m.renS k n to)::R) :=
  zih (c := { c with l := l }) (m:=m.renS k n to) ⟨rr_end h hk.1,hW.ok.ren hk hn hf hto,hW.big.ren hk.1⟩
end
theorem zwe {W:World} {b:Nat} {c:RH} {m:Md} {n to:ByteArray} :
    CSpec Tryz.prog W 27 [ptr b 0,.string n,.string to] [blk b 72 (zbi c m),RefR c m] (fun _:RH => .int .i64 (m.rnE n to)) (fun _=>True) (fun c2 F=>blk b 72 (zbi c2 (m.rnS n to))::RefR c2 (m.rnS n to)::F) := by
 refine CSpec.of_body Tryz.func27 rfl Tryz.ntmps27 rfl fun F => ?_
 show CJ _ _ _ _ _ _ (_::_::F)
 refine zba (zci foc1) fun hW => ?_
 have hO := hW.ok
 have hln := hW.big.len
 have hll := hW.len
 have hat := hW.at
 refine sR <| oA rfl rfl <| nT <| sR <| oM rfl rfl <| oM rfl rfl <| oO <| zaq (zgs) rfl Tryz.call65 (Dels.cons del0 (Dels.cons del0 Dels.nil)) rfl fun _ hc1=>oA rfl rfl <| nT <| zad <| sR <| oM rfl rfl <| oP (P_lss rfl rfl) rfl <| nT ?_
 first | (refine zao rfl (fun hg1 => ?_) (fun hg1 => ?_)) | (refine zap rfl (fun hg1 => ?_) (fun hg1 => ?_)) | (refine zar rfl (fun hg1 => ?_) (fun hg1 => ?_))
 ·
  refine sR <| oA rfl rfl <| nT <| zaj <| zae <| zan (res1 Tryz.results27 rfl) ?_
  have e1:m.rnE n to=12∧m.rnS n to=m := by
    rcases Md.devI_cases (m:=m) (n:=n) with ⟨h1,_⟩ | ⟨k,_,h2,_⟩
    · unfold Md.rnE Md.rnS; rw [h1]; exact ⟨rfl,rfl⟩
    · exfalso; omega
  rw [e1.2]
  refine CSpec.close c ?_ ?_ (t0_ (t0_ eR))
  · rw [e1.1]
  · trivial
 ·
  refine kT <| zad <| zad ?_
  obtain ⟨hdn,hdi⟩ | ⟨k,hdn,hdi,hk,hfk⟩ := Md.devI_cases (m:=m) (n:=n)
  · exfalso; omega
  rw [hdi]
  have hkl := hk.1
  refine zai <| oM rfl rfl <| oM rfl rfl <| oO <| zaq (zre) rfl Tryz.call66 (Dels.cons del0 (Dels.cons del0 Dels.nil)) rfl fun _ hc2=>oA rfl rfl <| nT <| sR <| oM rfl rfl <| oP (P_neq rfl rfl) rfl <| nT ?_
  first | (refine zao rfl (fun hg2 => ?_) (fun hg2 => ?_)) | (refine zap rfl (fun hg2 => ?_) (fun hg2 => ?_)) | (refine zar rfl (fun hg2 => ?_) (fun hg2 => ?_))
  ·
   refine sR <| oM rfl rfl <| oA rfl rfl <| nT <| zaj <| zae <| zan (res1 Tryz.results27 rfl) ?_
   have e0:m.rnE n to=m.freshE to := by unfold Md.rnE; rw [hdn]
   have e1 := Md.rnS_no (m:=m) (n:=n) (to:=to) (by rw [e0]; assumption)
   rw [e1]
   refine CSpec.close c ?_ ?_ (t0_ (t0_ eR))
   · rw [e0]
   · trivial
  ·
   refine kT <| zad ?_
   have hfr := Md.fresh_ok (m:=m) (to:=to) (by simp_all)
   have hfe:m.freshE to=0 := by simp_all
   refine zbd (Ent.trans (t1_ eR) zlm) <| zai <| oM rfl rfl <| oP (zaf rfl) rfl <| oP (zaa rfl ⟨_,_,_,Tryz.runUnderlying72,rfl,rfl,Tryz.sizeOf70,rfl⟩) rfl <| oV (zag rfl foc3 rfl Tryz.isAgg70) rfl <| oM rfl rfl <| oM rfl rfl ?_
   first | (refine RJ_op rfl (OJ_V (zal rfl rfl rfl (by first | omega | (simp only [List.length_set]; omega)) foc0 (Reads.sl _ _ _) Tryz.runUnderlying70 Tryz.sizeOf91) rfl ?_)) | (refine RJ_op rfl (OJ_V (zal rfl rfl (Int.toNat_of_nonneg (by first | omega | (simp only [List.length_set]; omega))).symm (by first | omega | (simp only [List.length_set]; omega)) foc0 (Reads.sl _ _ _) Tryz.runUnderlying70 Tryz.sizeOf91) rfl ?_))
   refine oP (zay rfl ⟨_,_,_,Tryz.runUnderlying91,rfl,rfl,Tryz.sizeOf9,rfl⟩) rfl <| oO <| zb3 (x' := ((c.l.getD k tyDv.dflt).1, { (c.l.getD k tyDv.dflt).2 with name := to })) rfl rfl rfl (by first | omega | (simp only [List.length_set]; omega)) foc0 rfl rfl rfl Tryz.sizeOf9 <| nT <| zad <| sR <| oA rfl rfl <| nT <| zas <| zbe (X:=Nat × List (RD × Dv)) [9,29,30,31,32,33,34,35,36,37,38,39,40,41,42,43,44,45,46,47,48,49,50,51,52,53,54,55,56,57,58,59,60,61,62,63,64,65,66,67,68,69,70,71,72,73] (fun ⟨i,l⟩  => ([(9,.int .i64 (i:Nat))]:Slots)) (fun ⟨i,l⟩ R=>sl tyDv c.dv.v l::Go.VG.Own RowC l::R) (fun ⟨i,l⟩  => i≤m.dv.length∧RrOk c m k n to i l) (fun ⟨i,l⟩  => m.dv.length - i) ⟨0,(c.l.set k ((c.l.getD k tyDv.dflt).1, { (c.l.getD k tyDv.dflt).2 with name := to }))⟩ ?_ ?_ (t0_ (Ent.takeC del1 (zpv (zrk (d:=tyDv.dflt) (by omega) rfl)) (t0_ (t0_ eR)))) ?_
   · exact ⟨Nat.zero_le _,rr_0 hW hkl⟩
   · exact ⟨rfl,True.intro⟩
   ·
    rintro ⟨i,l⟩ ⟨hi,hR⟩
    show CJ _ _ _ _ _ (([(9,.int .i64 (i:Nat))]:Slots) ++ forget _ _) (sl tyDv c.dv.v l::Go.VG.Own RowC l::_)
    have hll2 := hR.1
    refine zad <| sR <| oM rfl rfl <| oM rfl rfl <| oP (zaf rfl) rfl <| oP (zaa rfl ⟨_,_,_,Tryz.runUnderlying72,rfl,rfl,Tryz.sizeOf70,rfl⟩) rfl <| oV (zag rfl foc3 rfl Tryz.isAgg70) rfl <| oV (V_len rfl foc0 (Reads.sl _ _ _) Tryz.runUnderlying70) rfl <| oP (P_lss rfl rfl) rfl <| nT ?_
    first | (refine zao rfl (fun hg3 => ?_) (fun hg3 => ?_)) | (refine zap rfl (fun hg3 => ?_) (fun hg3 => ?_)) | (refine zar rfl (fun hg3 => ?_) (fun hg3 => ?_))
    ·
     refine kT <| zad <| zas ?_
     have hil:i < m.dv.length := by omega
     have hle := rr_len hO hR hil
     refine zbd (Ent.trans (t1_ eR) (RrOpen (i:=i) (by omega))) <| za4 188978561024 (by kernel_rfl) rfl <| aN 0 1 rfl rfl (zah rfl) rfl <| aN 1 3 rfl rfl (zaf rfl) rfl <| aN 2 7 rfl rfl (zaa rfl ⟨_,_,_,Tryz.runUnderlying72,rfl,rfl,Tryz.sizeOf70,rfl⟩) rfl <| aV 3 15 rfl rfl (zac rfl) (t0_ (t0_ (t0_ (t0_ (t0_ (t0_ (t0_ (t0_ eR)))))))) (zag rfl foc7 rfl Tryz.isAgg70) rfl <| aN 4 31 rfl rfl (zah rfl) rfl <| aN 5 63 rfl rfl (zah rfl) rfl <| aN 6 127 rfl rfl (zaf rfl) rfl <| aN 7 255 rfl rfl (zaa rfl ⟨_,_,_,Tryz.runUnderlying72,rfl,rfl,Tryz.sizeOf70,rfl⟩) rfl <| aV 8 511 rfl rfl (zac rfl) (t0_ (t0_ (t0_ (t0_ (t0_ (t0_ (t0_ (t0_ eR)))))))) (zag rfl foc7 rfl Tryz.isAgg70) rfl <| aN 9 1023 rfl rfl (zah rfl) rfl <| aN 10 2047 rfl rfl (zah rfl) rfl <| aN 11 4095 rfl rfl (zaf rfl) rfl <| aN 12 8191 rfl rfl (zaa rfl ⟨_,_,_,Tryz.runUnderlying72,rfl,rfl,Tryz.sizeOf70,rfl⟩) rfl <| aV 13 16383 rfl rfl (zac rfl) (t0_ (t0_ (t0_ (t0_ (t0_ (t0_ (t0_ (t0_ eR)))))))) (zag rfl foc7 rfl Tryz.isAgg70) rfl <| aN 14 32767 rfl rfl (zah rfl) rfl ?_
     first | (refine za9 15 65535 rfl (by kernel_rfl) rfl (by kernel_rfl) (by kernel_rfl) (zac rfl) (t0_ (t0_ (t0_ (t0_ (t0_ (t0_ (t0_ (t0_ eR)))))))) (zal rfl rfl rfl (by first | omega | (simp only [List.length_set]; omega)) foc5 (Reads.sl _ _ _) Tryz.runUnderlying70 Tryz.sizeOf91) rfl (fun _ _ _ _ h=>h) ?_) | (refine za9 15 65535 rfl (by kernel_rfl) rfl (by kernel_rfl) (by kernel_rfl) (zac rfl) (t0_ (t0_ (t0_ (t0_ (t0_ (t0_ (t0_ (t0_ eR)))))))) (zal rfl rfl (Int.toNat_of_nonneg (by first | omega | (simp only [List.length_set]; omega))).symm (by first | omega | (simp only [List.length_set]; omega)) foc5 (Reads.sl _ _ _) Tryz.runUnderlying70 Tryz.sizeOf91) rfl (fun _ _ _ _ h=>h) ?_)
     refine aN 16 131071 rfl rfl (zay rfl ⟨_,_,_,Tryz.runUnderlying91,rfl,rfl,Tryz.sizeOf30,rfl⟩) rfl <| aV 17 262143 rfl rfl (zac rfl) (t0_ (t0_ (t0_ (t0_ (t0_ (t0_ (t0_ (t0_ eR)))))))) (zaz rfl rfl (by first | omega | (simp only [List.length_set]; omega)) foc5 (Reads.sl _ _ _) rfl rfl Tryz.isAgg30) rfl <| aN 18 524287 rfl rfl (zah rfl) rfl <| aN 19 1048575 rfl rfl (zah rfl) rfl <| aN 21 3145727 rfl rfl (zah rfl) rfl <| aN 22 7340031 rfl rfl (zaf rfl) rfl <| aN 23 15728639 rfl rfl (zaa rfl ⟨_,_,_,Tryz.runUnderlying72,rfl,rfl,Tryz.sizeOf70,rfl⟩) rfl <| aV 24 32505855 rfl rfl (zac rfl) (t0_ (t0_ (t0_ (t0_ (t0_ (t0_ (t0_ (t0_ eR)))))))) (zag rfl foc7 rfl Tryz.isAgg70) rfl <| aN 25 66060287 rfl rfl (zah rfl) rfl ?_
     first | (refine za9 26 133169151 rfl (by kernel_rfl) rfl (by kernel_rfl) (by kernel_rfl) (zac rfl) (t0_ (t0_ (t0_ (t0_ (t0_ (t0_ (t0_ (t0_ eR)))))))) (zal rfl rfl rfl (by first | omega | (simp only [List.length_set]; omega)) foc5 (Reads.sl _ _ _) Tryz.runUnderlying70 Tryz.sizeOf91) rfl (fun _ _ _ _ h=>h) ?_) | (refine za9 26 133169151 rfl (by kernel_rfl) rfl (by kernel_rfl) (by kernel_rfl) (zac rfl) (t0_ (t0_ (t0_ (t0_ (t0_ (t0_ (t0_ (t0_ eR)))))))) (zal rfl rfl (Int.toNat_of_nonneg (by first | omega | (simp only [List.length_set]; omega))).symm (by first | omega | (simp only [List.length_set]; omega)) foc5 (Reads.sl _ _ _) Tryz.runUnderlying70 Tryz.sizeOf91) rfl (fun _ _ _ _ h=>h) ?_)
     refine aN 27 267386879 rfl rfl (zay rfl ⟨_,_,_,Tryz.runUnderlying91,rfl,rfl,Tryz.sizeOf30,rfl⟩) rfl <| aV 28 535822335 rfl rfl (zac rfl) (t0_ (t0_ (t0_ (t0_ (t0_ (t0_ (t0_ (t0_ eR)))))))) (zaz rfl rfl (by first | omega | (simp only [List.length_set]; omega)) foc5 (Reads.sl _ _ _) rfl rfl Tryz.isAgg30) rfl <| aN 29 1072693247 rfl rfl (zah rfl) rfl <| aN 30 2146435071 rfl rfl (zah rfl) rfl <| AJ_op 20 2147483647 rfl (by kernel_rfl) rfl (zac rfl) <| zaq (zfi (Reads.sl _ _ _) (zsh (by omega))) rfl Tryz.call67 (Dels.cons del1 Dels.nil) rfl fun nx3 hc5=>⟨fun _=>(t2_ (t0_ (t1_ (t1_ (t1_ (t1_ (t1_ (t1_ (eD eR))))))))),?_⟩
     refine AJ_op 31 4294967295 rfl (by kernel_rfl) rfl (zac rfl) <| zaq (zfi (Reads.sl _ _ _) (zsh (by omega))) rfl Tryz.call67 (Dels.cons del3 Dels.nil) rfl fun nx6 hc8=>⟨fun _=>(t4_ (t2_ (t0_ (t2_ (t2_ (t2_ (t2_ (t2_ (eD (eD eR)))))))))),?_⟩
     first | (refine za9 32 8589934591 rfl (by kernel_rfl) rfl (by kernel_rfl) (by kernel_rfl) (zac rfl) (t4_ (t2_ (t0_ (t2_ (t2_ (t2_ (t2_ (t2_ (eD (eD eR)))))))))) (zal rfl rfl rfl (by first | omega | (simp only [List.length_set]; omega)) foc5 (Reads.sl _ _ _) Tryz.runUnderlying70 Tryz.sizeOf91) rfl (fun _ _ _ _ h=>h) ?_) | (refine za9 32 8589934591 rfl (by kernel_rfl) rfl (by kernel_rfl) (by kernel_rfl) (zac rfl) (t4_ (t2_ (t0_ (t2_ (t2_ (t2_ (t2_ (t2_ (eD (eD eR)))))))))) (zal rfl rfl (Int.toNat_of_nonneg (by first | omega | (simp only [List.length_set]; omega))).symm (by first | omega | (simp only [List.length_set]; omega)) foc5 (Reads.sl _ _ _) Tryz.runUnderlying70 Tryz.sizeOf91) rfl (fun _ _ _ _ h=>h) ?_)
     refine aN 33 17179869183 rfl rfl (zay rfl ⟨_,_,_,Tryz.runUnderlying91,rfl,rfl,Tryz.sizeOf30,rfl⟩) rfl <| AJ_op 34 34359738367 rfl (by kernel_rfl) rfl (zac rfl) <| zb3 (x' := ({ (l.getD i tyDv.dflt).1 with lv := nx3 }, { (l.getD i tyDv.dflt).2 with live := Md.ren (l.getD i tyDv.dflt).2.live n to })) rfl rfl rfl (by first | omega | (simp only [List.length_set]; omega)) foc7 rfl rfl rfl Tryz.sizeOf30 <| ⟨fun h=>absurd h (by decide),?_⟩
     refine AJ_op 35 68719476735 rfl (by kernel_rfl) rfl (zac rfl) <| OJ_V (zal rfl rfl rfl (by first | omega | (simp only [List.length_set]; omega)) foc7 (Reads.sl _ _ _) Tryz.runUnderlying70 Tryz.sizeOf91) rfl <| ⟨fun h=>absurd h (by decide),?_⟩
     refine aN 36 137438953471 rfl rfl (zay rfl ⟨_,_,_,Tryz.runUnderlying91,rfl,rfl,Tryz.sizeOf30,rfl⟩) rfl <| AJ_op 37 274877906943 rfl (by kernel_rfl) rfl (zac rfl) <| zb3 (x' := ({ (((l.set i ({ (l.getD i tyDv.dflt).1 with lv := nx3 }, { (l.getD i tyDv.dflt).2 with live := Md.ren (l.getD i tyDv.dflt).2.live n to })).getD i tyDv.dflt)).1 with nw := nx6 }, { (((l.set i ({ (l.getD i tyDv.dflt).1 with lv := nx3 }, { (l.getD i tyDv.dflt).2 with live := Md.ren (l.getD i tyDv.dflt).2.live n to })).getD i tyDv.dflt)).2 with new := Md.ren (l.getD i tyDv.dflt).2.new n to })) rfl rfl rfl (by first | omega | (simp only [List.length_set]; omega)) foc7 rfl rfl rfl Tryz.sizeOf30 <| ⟨fun h=>absurd h (by decide),?_⟩
     refine zds (by kernel_rfl) <| zak <| zat <| zai <| oM rfl rfl <| oP (P_add rfl rfl (by first | omega | (simp only [List.length_set]; omega))) rfl <| oA rfl rfl <| za0 <| za6 ⟨i + 1,(l.set i ({ (l.getD i tyDv.dflt).1 with lv := nx3,nw := nx6 },(Md.renD n to (l.getD i tyDv.dflt).2)))⟩ (by show m.dv.length - (i + 1) < m.dv.length - i; omega) ?_ (by repeat (first | exact Kp.base | exact Kp.self | refine Kp.cons rfl ?_ | refine Kp.forget rfl ?_)) ?_ (Ent.trans (Ent.trans (t4_ (t3_ (t1_ (t2_ (t2_ eR))))) (zzn (h := { (l.getD i tyDv.dflt).1 with lv := nx3,nw := nx6 }) (d:=(Md.renD n to (l.getD i tyDv.dflt).2)) (by omega))) (Ent.takeC del3 (show sl tyDv c.dv.v ((l.set i ({ (l.getD i tyDv.dflt).1 with lv := nx3 }, { (l.getD i tyDv.dflt).2 with live := Md.ren (l.getD i tyDv.dflt).2.live n to })).set i _)=sl tyDv c.dv.v (l.set i ({ (l.getD i tyDv.dflt).1 with lv := nx3,nw := nx6 },(Md.renD n to (l.getD i tyDv.dflt).2))) from congrArg (sl tyDv _) (by simp only [stq (show i < l.length by omega),List.set_set]; rfl)) (t0_ (t2_ (t2_ (eD (eD eR)))))))
     · exact ⟨by omega,zzm hR hil⟩
     · exact ⟨rfl,True.intro⟩
    ·
     refine zbg <| zaw <| zav <| zau <| zat <| sR <| oA rfl rfl <| nT <| zaj <| zan (res1 Tryz.results27 rfl) ?_
     obtain rfl:i=m.dv.length := by omega
     have e1 := Md.rnS_ok hdn hfe
     rw [e1.2]
     refine CSpec.close { c with l := l } ?_ ?_ (Ent.trans (Ent.trans (t0_ (t1_ (t0_ eR))) (zx3 hW hk (Md.find_lt hfk).2.2 hfr.2.2.1 hfr.2.2.2 hR)) (t1_ (t0_ eR)))
     · rw [e1.1]
     · trivial
end Go.Proofs
set_option linter.unusedSimpArgs false
set_option maxRecDepth 20000
namespace Go.Proofs
open Go.VG
theorem zwf {W:World} {b:Nat} {m:Md} {n to:ByteArray} (hc:m.cl < 4000):CSpec Tryz.prog W 26 [ptr b 0,.string n,.string to] (MapP b m::[]) (fun _:Unit => .int .i64 (m.rnE n to)) (fun _=>True) (fun _ F=>MapP b (m.rnS n to).tick::([] ++ F)) :=
  CSpec.toT hc (fun _hO h=>Md.bd_rn h hc) fun _c _hb=>zx2
end Go.Proofs
set_option linter.unusedSimpArgs false
set_option maxRecDepth 20000
namespace Go.Proofs
open Go.VG
theorem zjs (v0:(Option Addr)) (v1:Int) (v2:Int) (v3:Int):∀ w,(Instr.build 161 (#[(0,.pointer v0),(1,.int .i64 v1),(2,.int .i64 v2),(3,.int .i64 v3)]:Array (Nat × Value))).run Tryz.prog w = .ok (.agg #[.pointer v0,.int .i64 v1,.int .i64 v2,.int .i64 v3]) w := fun w=>by kernel_rfl
theorem zoc (v0:TypeId) (v1:Value):zbt Tryz.prog 73 1 [(0,.iface v0 v1)] 39 [.iface v0 v1] := fun w=>by kernel_rfl
abbrev SpC (a z0 z1:Nat) (x:Nat × Nat):HP := blkR x.1 161 [ptr a 0,.int .i64 (x.2:Int),.int .i64 0,.int .i64 ((if x.2=0 then z0 else z1:Nat):Int)]
abbrev spI (x:Nat × Nat):IfH := ⟨159,ptr x.1 0⟩
theorem two_of {ps:List (Nat × Nat)} (hl:ps.length=2) (h:∀ j,j < 2→(ps.getD j (0,0)).2=j):∃ p q,ps=[(p,0),(q,1)] := by
  match ps,hl with
  | [(p,x),(q,y)],_ =>
    have h0:x=0 := h 0 (by decide)
    have h1:y=1 := h 1 (by decide)
    subst h0; subst h1; exact ⟨p,q,rfl⟩
theorem zzo {f:Nat × Nat→HP} {x y:Nat × Nat} {R:List HP} : Ent (Go.VG.Own f [x,y]::R) (f x::f y::R) := fun _ hh=>stars_star.1 hh
theorem zzp {f:Nat × Nat→HP} {x:Nat × Nat} {l:List (Nat × Nat)} {R:List HP} : Ent (f x::Go.VG.Own f l::R) (Go.VG.Own f (l ++ [x])::R) := zmu f x
theorem zzq {ps:List (Nat × Nat)} {i p:Nat} (hl:ps.length=i) (h:∀ j,j < i→(ps.getD j (0,0)).2=j):∀ j,j < i + 1→((ps ++ [(p,i)]).getD j (0,0)).2=j := fun j hj=>by
  rcases Nat.lt_or_ge j i with h1 | h1
  · have := h j h1
    simpa [List.getD,List.getElem?_append_left (show j < ps.length by omega)] using this
  · obtain rfl:j=i := by omega
    subst hl; simp [List.getD]
theorem c_Span {W:World} {a d z:Nat} {s:ArrS} (hz:1≤z∧z≤65536) (hs:sizeI s (d:Int)=(z:Int)) (_hW:s.writes≤1000000000) :
    CSpec Tryz.prog W 52 [ptr a 0,.int .i64 (d:Int),.int .i64 0,.int .i64 (z:Int)] [Arr a s] (fun p:Nat => .tuple #[.iface 159 (ptr p 0),.int .i64 0]) (fun _=>True) (fun p F=>blkR p 161 [ptr a 0,.int .i64 (d:Int),.int .i64 0,.int .i64 (z:Int)]::Arr a s::F) := by
 refine CSpec.of_body Tryz.func52 rfl Tryz.ntmps52 rfl fun F => ?_
 show CJ _ _ _ _ _ _ (_::F)
 refine sR <| oA rfl rfl <| oA rfl rfl <| nT <| zad <| sR <| oM rfl rfl <| oP (P_lss rfl rfl) rfl <| oM rfl rfl ?_
 first | (refine zbp 12 rfl (fun hg1B hg1 => ?_) (fun hg1B hg1 => ?_)) | (refine zbq 12 rfl (fun hg1B hg1 => ?_) (fun hg1B hg1 => ?_)) | (refine zbr 12 rfl (fun hg1B => ?_) (fun hg1B => ?_))
 ·
  refine RJ_gn (GY_no rfl rfl rfl hg1B) rfl rfl <| RJ_gn (GY_no rfl rfl rfl hg1B) rfl rfl <| RJ_gn (GY_no rfl rfl rfl hg1B) rfl rfl <| RJ_gn (GY_no rfl rfl rfl hg1B) rfl rfl <| RJ_gn (GY_no rfl rfl rfl hg1B) rfl rfl <| RJ_gn (GY_no rfl rfl rfl hg1B) rfl rfl <| RJ_gn (GY_no rfl rfl rfl hg1B) rfl rfl <| oP (za2 rfl hg1B rfl) rfl <| nT <| zbk rfl rfl <| sR <| oA rfl rfl <| oA rfl rfl <| nT <| zaj <| zae ?_
  exfalso; simp_all; try omega
 ·
  refine gP (zab rfl rfl rfl hg1B) (zah rfl) rfl <| gP (zab rfl rfl rfl hg1B) (zah rfl) rfl <| RJ_gy (zab rfl rfl rfl hg1B) <| zaq (zon) rfl Tryz.call53 (Dels.cons del0 Dels.nil) rfl fun _ hc1=>gP (zab rfl rfl rfl hg1B) (zah rfl) rfl <| gP (zab rfl rfl rfl hg1B) (zah rfl) rfl <| RJ_gy (zab rfl rfl rfl hg1B) <| zaq (zhe (zw7 (by omega) (by omega))) rfl Tryz.call92 Dels.nil rfl fun _ hc2=>gP (zab rfl rfl rfl hg1B) (P_not rfl) rfl <| oP (za5 rfl hg1B rfl) rfl <| nT ?_
  first | (refine zbf rfl (decide_eq_false (by simp)) ?_) | (refine zbf rfl (by simp) ?_)
  refine kT <| sR <| oM rfl rfl <| oM rfl rfl <| oM rfl rfl <| oM rfl rfl <| oP (zbm rfl (zjs _ _ _ _)) rfl <| oO <| O_box rfl rfl rfl fun b3=>oP (zrr rfl Tryz.runUnderlying159 (by intro ms h; cases h)) rfl <| oA rfl rfl <| oA rfl rfl <| nT <| zaj <| zwo del0 <| zan (res2 Tryz.results52 rfl rfl) <| CSpec.close b3 ?_ ?_ (t0_ (t0_ eR))
  · rfl
  · trivial
theorem zrn {W:World} {a z0 z1:Nat} {s:ArrS} (h0:1≤z0∧z0≤65536) (h1:1≤z1∧z1≤65536) (hl:s.drv.length=2) (hs0:sizeI s 0=(z0:Int)) (hs1:sizeI s 1=(z1:Int)) (hW:s.writes≤1000000000) :
    CSpec Tryz.prog W 19 [ptr a 0] [Arr a s] (fun x:Sl3 × Nat × Nat=>x.1.v) (fun _=>True) (fun x F=>sl tyDev x.1.v [spI (x.2.1,0),spI (x.2.2,1)]::SpC a z0 z1 (x.2.1,0)::SpC a z0 z1 (x.2.2,1)::Arr a s::F) := by
 refine CSpec.of_body Tryz.func19 rfl Tryz.ntmps19 rfl fun F => ?_
 show CJ _ _ _ _ _ _ (_::F)
 refine sR <| oA rfl rfl <| nT <| sR <| oA rfl rfl <| nT <| zad <| sR <| oA rfl rfl <| nT <| zas <| zbd (fun h hh=>zb2 (t:=tyDev) h hh) <| zbd (zok (SpC a z0 z1)) <| zbe (X:=Nat × Sl3 × List (Nat × Nat)) [2,3,4,5,6,7,8,9,10,11,12,13,14,15,16,17,18,19,20,21,22,23,24,25,26,27,28,29,30,31] (fun ⟨i,rv,ps⟩  => ([(4,.int .i64 (i:Nat)),(3,rv.v)]:Slots)) (fun ⟨i,rv,ps⟩ R=>sl tyDev rv.v (ps.map spI)::Go.VG.Own (SpC a z0 z1) ps::R) (fun ⟨i,rv,ps⟩  => i≤2∧ps.length=i ∧ ∀ j,j < i→(ps.getD j (0,0)).2=j) (fun ⟨i,rv,ps⟩  => 2 - i) ⟨0,⟨none,0,0⟩,[]⟩ ?_ ?_ (t1_ (t0_ (t0_ eR))) ?_
 · exact ⟨by omega,rfl,fun j h=>by omega⟩
 · exact ⟨rfl,rfl,True.intro⟩
 ·
  rintro ⟨i,rv,ps⟩ ⟨hi,hpl,hps⟩
  show CJ _ _ _ _ _ (([(4,.int .i64 (i:Nat)),(3,rv.v)]:Slots) ++ forget _ _) (sl tyDev rv.v (ps.map spI)::Go.VG.Own (SpC a z0 z1) ps::_)
  have hpm:(ps.map spI).length=ps.length := by simp
  refine zad <| sR <| oM rfl rfl <| oM rfl rfl <| oO <| zaq (zwv) rfl Tryz.call51 (Dels.cons del2 Dels.nil) rfl fun _ hc1=>oP (P_lss rfl rfl) rfl <| nT ?_
  first | (refine zao rfl (fun hg1 => ?_) (fun hg1 => ?_)) | (refine zap rfl (fun hg1 => ?_) (fun hg1 => ?_)) | (refine zar rfl (fun hg1 => ?_) (fun hg1 => ?_))
  ·
   refine kT <| zad <| zas <| zad ?_
   have hsz:sizeI s ((i:Nat):Int)=((if i=0 then z0 else z1:Nat):Int) := by
     rcases (by omega:i=0∨i=1) with rfl | rfl
     · rw [if_pos rfl]; exact hs0
     · rw [if_neg (by decide)]; exact hs1
   refine zai <| oM rfl rfl <| oM rfl rfl <| oM rfl rfl <| oM rfl rfl <| oO <| zaq (zon) rfl Tryz.call53 (Dels.cons del0 Dels.nil) rfl fun _ hc2 => ?_
   rw [hsz]
   refine oO <| zaq ((c_Span (d:=i) (z:=if i=0 then z0 else z1) (by split <;> assumption) hsz hW)) rfl Tryz.call52 (Dels.cons del0 Dels.nil) rfl fun p9 hc4=>oM rfl rfl <| oP (za1 rfl rfl) rfl <| oP (za1 rfl rfl) rfl <| oA rfl rfl <| oA rfl rfl <| nT <| zad <| sR <| oM rfl rfl <| oP (P_neq rfl rfl) rfl <| oM rfl rfl ?_
   first | (refine zbp 24 rfl (fun hg2B hg2 => ?_) (fun hg2B hg2 => ?_)) | (refine zbq 24 rfl (fun hg2B hg2 => ?_) (fun hg2B hg2 => ?_)) | (refine zbr 24 rfl (fun hg2B => ?_) (fun hg2B => ?_))
   ·
    refine RJ_gn (GY_no rfl rfl rfl hg2B) rfl rfl <| RJ_gn (GY_no rfl rfl rfl hg2B) rfl rfl <| oP (za2 rfl hg2B rfl) rfl <| nT <| zbk rfl rfl <| sR <| oA rfl rfl <| nT <| zaj <| zae <| zam <| zae <| zbb <| zam <| zae ?_
    exfalso; simp_all
   ·
    refine gP (zab rfl rfl rfl hg2B) (zah rfl) rfl <| gP (zab rfl rfl rfl hg2B) (zwp rfl rfl Tryz.underlying39) rfl <| oP (za5 rfl hg2B rfl) rfl <| nT <| zbf rfl rfl <| kT <| zai <| oM rfl rfl <| oM rfl rfl <| oO <| za7 rfl (zoc _ _) rfl fun b5=>oO <| zbv (t:=tyDev) (bytes:=16) rfl rfl del3 foc0 (Reads.lit (t:=tyDev) (ys:=[spI (p9,i)]) rfl rfl (by decide) (by decide) rfl) Tryz.underlying73 zwy (by simp only [List.length_append,List.length_cons,List.length_nil,maxLen] at *; omega) (by simp only [List.length_append,List.length_cons,List.length_nil,maxLen] at *; omega) rfl fun p6 c7=>oA rfl rfl <| za0 <| zak <| zat <| zai <| oM rfl rfl <| oP (P_add rfl rfl (by omega)) rfl <| oA rfl rfl <| za0 <| za6 ⟨i + 1,⟨p6,_,c7⟩,ps ++ [(p9,i)]⟩ (by show 2 - (i + 1) < 2 - i; omega) ?_ (by repeat (first | exact Kp.base | exact Kp.self | refine Kp.cons rfl ?_ | refine Kp.forget rfl ?_)) ?_ (Ent.trans (Ent.trans (t2_ (t3_ eR)) (zzp (f:=SpC a z0 z1) (x:=(p9,i)))) (Ent.takeC del1 (congrArg (sl tyDev _) (by rw [List.map_append]; rfl)) (t0_ (t1_ (eD eR)))))
    · exact ⟨by omega,by simp [hpl],zzq hpl hps⟩
    · exact ⟨rfl,rfl,True.intro⟩
  ·
   refine zbg <| zaw <| zav <| zau <| zat <| sR <| oM rfl rfl <| oA rfl rfl <| nT <| zaj ?_
   obtain rfl:i=2 := by omega
   obtain ⟨p7,q7,rfl⟩ := two_of hpl hps
   refine zan (res1 Tryz.results19 rfl) <| CSpec.close ⟨rv,p7,q7⟩ ?_ ?_ (Ent.trans (Ent.trans (t2_ eR) zzo) (t3_ (t0_ (t0_ (t0_ eR)))))
   · rfl
   · trivial
end Go.Proofs
set_option linter.unusedSimpArgs false
set_option maxRecDepth 20000
namespace Go.Proofs
open Go.VG
theorem zh4 (v0:(Option Addr)) (v1:Nat) (v2:Nat) (v3:(Option Addr)) (v4:Nat) (v5:Nat):zbt Tryz.prog 68 2 [(0,.slice v0 v1 v2),(1,.slice v3 v4 v5)] 67 [.slice v0 v1 v2,.slice v3 v4 v5] := fun w=>by kernel_rfl
theorem zkm:∀ w,(Instr.build 72 (#[]:Array (Nat × Value))).run Tryz.prog w = .ok (.agg #[.slice none 0 0,.int .i64 0,.slice none 0 0]) w := fun w=>by kernel_rfl
abbrev nd0:ByteArray := ByteArray.mk #[100,105,115,107,48]
abbrev nd1:ByteArray := ByteArray.mk #[100,105,115,107,49]
abbrev Mb1:Md := Md.z.push (bNew nd0 12)
abbrev Mb2:Md := Mb1.push (bNew nd1 8)
theorem addE0:Md.z.addE nd0=0 := by rfl
theorem addE1:Mb1.addE nd1=0 := by kernel_rfl
abbrev Sb:ArrS := mkS [List.replicate 12 0,List.replicate 8 0]
theorem zod:MdBd Mb2 := ⟨Nat.le_refl _,Nat.le_refl _,Nat.zero_le _,Nat.zero_le _,by decide,by decide⟩
theorem rows2 {v0 v1:Sl3} {a b:List UInt64} : RowsR (star [sl tyU v0.v a,sl tyU v1.v b]) [a,b] [v0,v1] := ⟨rfl,fun i hi=>by
  match i,hi with
  | 0,_=>exact zd2 (R:=[sl tyU v1.v b]) (fun _ hh=>stars_star.1 hh)
  | 1,_=>exact zd2 (R:=[sl tyU v0.v a]) (Ent.trans (fun _ hh=>stars_star.1 hh) (Ent.take del1 Ent.refl))⟩
theorem zpw {W:World} {vl v0 v1:Sl3} : CSpec Tryz.prog W 17 [vl.v] [sl tyRow vl.v [v0,v1],star [sl tyU v0.v (List.replicate 12 0),sl tyU v1.v (List.replicate 8 0)]] (fun x:Nat=>ptr x 0) (fun _=>True) (fun x F=>sl tyRow vl.v [v0,v1]::star [sl tyU v0.v (List.replicate 12 0),sl tyU v1.v (List.replicate 8 0)]::Arr x Sb::F) :=
  ziu (Reads.sl _ _ _) rows2 (zu2 (by decide) (by intro im h; simp only [List.mem_cons,List.not_mem_nil,or_false] at h; rcases h with rfl | rfl <;> simp))
theorem zwg {R:List HP} : Ent R (RefR ⟨s3z,s3z,[]⟩ Md.z::R) := fun g hh=>zih (c:=⟨s3z,s3z,[]⟩) ⟨rfl,Md.z_ok,Md.z_big⟩ g (zb2 (t:=tyDv) _ (zb2 (t:=tyapi_Answer) _ (zok RowC _ hh)))
theorem zg3 {b:Nat} {m:Md} {c:RH} {R:List HP} (h:MdBd m):Ent (blk b 72 (zbi c m)::RefR c m::R) (RefP b m::R) :=
  fun _ hh=>stars_ex.2 ⟨c,stars_star.2 (stars_pur.2 ⟨h,hh⟩)⟩
theorem zlp {b:Nat} {m:Md} {R:List HP} : EntX (RefP b m::R) fun c:RH=>pur (MdBd m)::blk b 72 (zbi c m)::RefR c m::R :=
  fun _ hh=>let ⟨c,hc⟩ := stars_ex.1 hh; ⟨c,stars_star.1 hc⟩
theorem zs5 {W:World}  :
    CSpec Tryz.prog W 7 [] [] (fun x:Nat × Nat => .tuple #[ptr x.1 0,ptr x.2 0]) (fun _=>True) (fun x F=>MapP x.1 Mb2::RefP x.2 Mb2::F) := by
 refine CSpec.of_body Tryz.func7 rfl Tryz.ntmps7 rfl fun F => ?_
 show CJ _ _ _ _ _ _ (F)
 refine sR <| oA rfl rfl <| oA rfl rfl <| nT <| zad <| za4 15 (by kernel_rfl) rfl <| zkr 0 1 1 2 rfl rfl (by kernel_rfl) rfl rfl (zac rfl) (zac rfl) (ze6 (t:=tyU) (m:=12) (x0:=(0:UInt64)) (z:=_) (bytes:=_) rfl rfl rfl rfl Tryz.underlying67 ⟨Tryz.t31,by kernel_rfl,rfl,rfl,rfl⟩ rfl (by decide) (by decide) rfl (fun b1 => ?_)) (ze6 (t:=tyU) (m:=8) (x0:=(0:UInt64)) (z:=_) (bytes:=_) rfl rfl rfl rfl Tryz.underlying67 ⟨Tryz.t31,by kernel_rfl,rfl,rfl,rfl⟩ rfl (by decide) (by decide) rfl (fun b2 => ?_))
 ·
  refine ⟨fun h=>absurd h (by decide),?_⟩
  refine AJ_op 1 3 rfl (by kernel_rfl) rfl (zac rfl) <| ze6 (t:=tyU) (m:=8) (x0:=(0:UInt64)) (z:=_) (bytes:=_) rfl rfl rfl rfl Tryz.underlying67 ⟨Tryz.t31,by kernel_rfl,rfl,rfl,rfl⟩ rfl (by decide) (by decide) rfl fun b3=>⟨fun h=>absurd h (by decide),?_⟩
  refine AJ_op 2 7 rfl (by kernel_rfl) rfl (zac rfl) <| za7 rfl (zh4 _ _ _ _ _ _) rfl fun b4=>⟨fun h=>absurd h (by decide),?_⟩
  refine zio (Ent.trans (t0_ eR) (zcd (t:=tyRow) (m:=2) [⟨some ⟨b1,0,none⟩,12,12⟩,⟨some ⟨b3,0,none⟩,8,8⟩] rfl rfl rfl (by decide))) <| zio (Ent.trans (t2_ (t1_ eR)) (fun h hh=>(stars_star.2 hh:stars (star [sl tyU (Sl3.v ⟨some ⟨b1,0,none⟩,12,12⟩) (List.replicate 12 0),sl tyU (Sl3.v ⟨some ⟨b3,0,none⟩,8,8⟩) (List.replicate 8 0)]::_) h))) <| AJ_op 3 15 rfl (by kernel_rfl) rfl (zac rfl) <| zaq ((zpw (vl:=⟨some ⟨b4,0,none⟩,2,2⟩) (v0:=⟨some ⟨b1,0,none⟩,12,12⟩) (v1:=⟨some ⟨b3,0,none⟩,8,8⟩))) rfl Tryz.call17 (Dels.cons del1 (Dels.cons del0 Dels.nil)) rfl fun a hc6=>⟨fun h=>absurd h (by decide),?_⟩
  refine aN 4 31 rfl rfl (zbc rfl) rfl <| aD <| sR <| oO <| zaq (zvu) rfl Tryz.call18 Dels.nil rfl fun nw hc10=>oP (zbm rfl (zkm)) rfl <| oO <| O_box rfl rfl rfl fun b11=>oA rfl rfl <| oA rfl rfl <| nT <| zad <| sR <| oM rfl rfl <| oP (zd3 rfl rfl Tryz.underlying65) rfl <| oM rfl rfl <| gP (zab rfl rfl rfl rfl) (zah rfl) rfl <| gP (zab rfl rfl rfl rfl) (zd3 rfl rfl Tryz.underlying25) rfl <| oP (za5 rfl rfl rfl) rfl <| nT <| zbf rfl rfl <| kT <| sR <| oM rfl rfl <| oO <| zaq ((zrn (z0:=12) (z1:=8) (by decide) (by decide) (by simp) (by rfl) (by rfl) (by decide))) rfl Tryz.call19 (Dels.cons del6 Dels.nil) rfl fun sp hc15=>oA rfl rfl <| nT <| zad <| zad <| zbd (Ent.trans (t6_ (t6_ (t3_ eR))) (zvt zqr rfl)) <| zbd zwg <| zbd (t0_ (t0_ (t0_ (Ent.takeC del0 (show _=blkR sp.2.1 161 [ptr a 0,.int .i64 ((0:Nat):Int),.int .i64 0,.int .i64 ((12:Nat):Int)] from rfl) (Ent.takeC del0 (show _=blkR sp.2.2 161 [ptr a 0,.int .i64 ((1:Nat):Int),.int .i64 0,.int .i64 ((8:Nat):Int)] from rfl) (Ent.takeC del0 (show _=blk b11 72 (zbi ⟨s3z,s3z,[]⟩ Md.z) from rfl) (Ent.takeC del0 (show _=blk nw.1 84 (za3 ⟨nw.2.1,nw.2.2,a,s3z,s3z,[],[],[],Sb⟩ Md.z) from rfl) (t0_ (t0_ eR))))))))) <| zai <| oM rfl rfl <| oV (V_len rfl foc2 (Reads.sl _ _ _) Tryz.runUnderlying73) rfl ?_
  refine oP (P_neq rfl rfl) rfl <| oM rfl rfl ?_
  first | (refine zbp 24 rfl (fun hg1B hg1 => ?_) (fun hg1B hg1 => ?_)) | (refine zbq 24 rfl (fun hg1B hg1 => ?_) (fun hg1B hg1 => ?_)) | (refine zbr 24 rfl (fun hg1B => ?_) (fun hg1B => ?_))
  ·
   refine RJ_gn (GY_no rfl rfl rfl hg1B) rfl rfl <| RJ_gn (GY_no rfl rfl rfl hg1B) rfl rfl <| RJ_gn (GY_no rfl rfl rfl hg1B) rfl rfl <| RJ_gn (GY_no rfl rfl rfl hg1B) rfl rfl <| RJ_gn (GY_no rfl rfl rfl hg1B) rfl rfl <| RJ_gn (GY_no rfl rfl rfl hg1B) rfl rfl <| oP (za2 rfl hg1B rfl) rfl <| oM rfl rfl <| RJ_gn (GY_no rfl rfl rfl rfl) rfl rfl <| RJ_gn (GY_no rfl rfl rfl rfl) rfl rfl <| RJ_gn (GY_no rfl rfl rfl rfl) rfl rfl <| RJ_gn (GY_no rfl rfl rfl rfl) rfl rfl <| RJ_gn (GY_no rfl rfl rfl rfl) rfl rfl <| RJ_gn (GY_no rfl rfl rfl rfl) rfl rfl <| oP (za2 rfl rfl rfl) rfl <| oM rfl rfl <| RJ_gn (GY_no rfl rfl rfl rfl) rfl rfl <| RJ_gn (GY_no rfl rfl rfl rfl) rfl rfl <| RJ_gn (GY_no rfl rfl rfl rfl) rfl rfl <| oP (za2 rfl rfl rfl) rfl <| oM rfl rfl <| RJ_gn (GY_no rfl rfl rfl rfl) rfl rfl <| RJ_gn (GY_no rfl rfl rfl rfl) rfl rfl <| RJ_gn (GY_no rfl rfl rfl rfl) rfl rfl <| oP (za2 rfl rfl rfl) rfl <| nT <| zbk rfl rfl <| sR <| oA rfl rfl <| oA rfl rfl <| nT <| zaj <| zae ?_
   exfalso; first | omega | (have z0 := addE0; have z1 := addE1; simp_all)
  ·
   refine gP (zab rfl rfl rfl hg1B) (zah rfl) rfl <| gP (zab rfl rfl rfl hg1B) (zah rfl) rfl ?_
   first | (refine RJ_gy (zab rfl rfl rfl hg1B) (OJ_V (zal rfl rfl rfl (by omega) foc2 (Reads.sl _ _ _) Tryz.runUnderlying73 Tryz.sizeOf39) rfl ?_)) | (refine RJ_gy (zab rfl rfl rfl hg1B) (OJ_V (zal rfl rfl (Int.toNat_of_nonneg (by omega)).symm (by omega) foc2 (Reads.sl _ _ _) Tryz.runUnderlying73 Tryz.sizeOf39) rfl ?_))
   refine gV (zab rfl rfl rfl hg1B) (zaz rfl rfl (by omega) foc2 (Reads.sl _ _ _) rfl rfl Tryz.isAgg39) rfl <| RJ_gy (zab rfl rfl rfl hg1B) <| zaq ((zn8 (c:=⟨nw.2.1,nw.2.2,a,s3z,s3z,[],[],[],Sb⟩) (m:=Md.z) (n:=nd0) (p:=sp.2.1) (dn:=0) (z:=12) (by decide) addE0 (by decide) (by simp) (by rw [zj3]; rfl) (fun i hi=>absurd hi.1 (Nat.not_lt_zero _)))) rfl Tryz.call20 (Dels.cons del3 (Dels.cons del5 (Dels.cons del1 Dels.nil))) rfl fun c1 hc1 => ?_
   obtain ⟨ov1,rfl⟩ := hc1
   refine gP (zab rfl rfl rfl hg1B) (P_neq rfl rfl) rfl <| oP (za5 rfl hg1B rfl) rfl <| oM rfl rfl ?_
   first | (refine zbp 32 rfl (fun hg2B hg2 => ?_) (fun hg2B hg2 => ?_)) | (refine zbq 32 rfl (fun hg2B hg2 => ?_) (fun hg2B hg2 => ?_)) | (refine zbr 32 rfl (fun hg2B => ?_) (fun hg2B => ?_))
   ·
    refine RJ_gn (GY_no rfl rfl rfl hg2B) rfl rfl <| RJ_gn (GY_no rfl rfl rfl hg2B) rfl rfl <| RJ_gn (GY_no rfl rfl rfl hg2B) rfl rfl <| RJ_gn (GY_no rfl rfl rfl hg2B) rfl rfl <| RJ_gn (GY_no rfl rfl rfl hg2B) rfl rfl <| RJ_gn (GY_no rfl rfl rfl hg2B) rfl rfl <| oP (za2 rfl hg2B rfl) rfl <| oM rfl rfl <| RJ_gn (GY_no rfl rfl rfl rfl) rfl rfl <| RJ_gn (GY_no rfl rfl rfl rfl) rfl rfl <| RJ_gn (GY_no rfl rfl rfl rfl) rfl rfl <| oP (za2 rfl rfl rfl) rfl <| oM rfl rfl <| RJ_gn (GY_no rfl rfl rfl rfl) rfl rfl <| RJ_gn (GY_no rfl rfl rfl rfl) rfl rfl <| RJ_gn (GY_no rfl rfl rfl rfl) rfl rfl <| oP (za2 rfl rfl rfl) rfl <| nT <| zbk rfl rfl <| sR <| oA rfl rfl <| oA rfl rfl <| nT <| zaj <| zae ?_
    exfalso; first | omega | (have z0 := addE0; have z1 := addE1; simp_all)
   ·
    refine gP (zab rfl rfl rfl hg2B) (zah rfl) rfl <| gP (zab rfl rfl rfl hg2B) (zah rfl) rfl ?_
    first | (refine RJ_gy (zab rfl rfl rfl hg2B) (OJ_V (zal rfl rfl rfl (by omega) foc3 (Reads.sl _ _ _) Tryz.runUnderlying73 Tryz.sizeOf39) rfl ?_)) | (refine RJ_gy (zab rfl rfl rfl hg2B) (OJ_V (zal rfl rfl (Int.toNat_of_nonneg (by omega)).symm (by omega) foc3 (Reads.sl _ _ _) Tryz.runUnderlying73 Tryz.sizeOf39) rfl ?_))
    refine gV (zab rfl rfl rfl hg2B) (zaz rfl rfl (by omega) foc3 (Reads.sl _ _ _) rfl rfl Tryz.isAgg39) rfl <| RJ_gy (zab rfl rfl rfl hg2B) (zaq ((zn8 (c:=(MH.push (⟨nw.2.1,nw.2.2,a,s3z,s3z,[],[],[],Sb⟩:MH) ov1 (MH.dl (⟨nw.2.1,nw.2.2,a,s3z,s3z,[],[],[],Sb⟩:MH)) (setM (MH.bl (⟨nw.2.1,nw.2.2,a,s3z,s3z,[],[],[],Sb⟩:MH)) nd0 sp.2.1) (hBas sp.2.1 0) (bNew nd0 12))) (m:=Mb1) (n:=nd1) (p:=sp.2.2) (dn:=1) (z:=8) (by decide) addE1 (by decide) (by simp) (by rw [zj3]; rfl) (fun i hi=>by
      have h0:i=0 := by have := hi.1; have e:Mb1.dv.length=1 := rfl; omega
      subst h0; exact (by decide:(0:Nat)≠1)))) rfl Tryz.call20 (Dels.cons del4 (Dels.cons del0 (Dels.cons del0 Dels.nil))) rfl (fun c2 hc2 => ?_))
    obtain ⟨ov2,rfl⟩ := hc2
    refine gP (zab rfl rfl rfl hg2B) (P_neq rfl rfl) rfl <| oP (za5 rfl hg2B rfl) rfl <| oM rfl rfl ?_
    first | (refine zbp 40 rfl (fun hg3B hg3 => ?_) (fun hg3B hg3 => ?_)) | (refine zbq 40 rfl (fun hg3B hg3 => ?_) (fun hg3B hg3 => ?_)) | (refine zbr 40 rfl (fun hg3B => ?_) (fun hg3B => ?_))
    ·
     refine RJ_gn (GY_no rfl rfl rfl hg3B) rfl rfl <| RJ_gn (GY_no rfl rfl rfl hg3B) rfl rfl <| RJ_gn (GY_no rfl rfl rfl hg3B) rfl rfl <| oP (za2 rfl hg3B rfl) rfl <| oM rfl rfl <| RJ_gn (GY_no rfl rfl rfl rfl) rfl rfl <| RJ_gn (GY_no rfl rfl rfl rfl) rfl rfl <| RJ_gn (GY_no rfl rfl rfl rfl) rfl rfl <| oP (za2 rfl rfl rfl) rfl <| nT <| zbk rfl rfl <| sR <| oA rfl rfl <| oA rfl rfl <| nT <| zaj <| zae ?_
     exfalso; first | omega | (have z0 := addE0; have z1 := addE1; simp_all)
    ·
     refine gP (zab rfl rfl rfl hg3B) (zah rfl) rfl <| RJ_gy (zab rfl rfl rfl hg3B) <| zaq ((zl6 (m:=Md.z) (n:=nd0) (z:=12) (by decide) (by decide))) rfl Tryz.call21 (Dels.cons del4 (Dels.cons del2 Dels.nil)) rfl fun r1 hc18 => ?_
     rw [(zjp (z:=12) addE0).1]
     refine gP (zab rfl rfl rfl hg3B) (P_neq rfl rfl) rfl <| oP (za5 rfl hg3B rfl) rfl <| oM rfl rfl ?_
     first | (refine zbp 45 rfl (fun hg4B hg4 => ?_) (fun hg4B hg4 => ?_)) | (refine zbq 45 rfl (fun hg4B hg4 => ?_) (fun hg4B hg4 => ?_)) | (refine zbr 45 rfl (fun hg4B => ?_) (fun hg4B => ?_))
     ·
      refine RJ_gn (GY_no rfl rfl rfl hg4B) rfl rfl <| RJ_gn (GY_no rfl rfl rfl hg4B) rfl rfl <| RJ_gn (GY_no rfl rfl rfl hg4B) rfl rfl <| oP (za2 rfl hg4B rfl) rfl <| nT <| zbk rfl rfl <| sR <| oA rfl rfl <| oA rfl rfl <| nT <| zaj <| zae ?_
      exfalso; first | omega | (have z0 := addE0; have z1 := addE1; simp_all)
     ·
      refine gP (zab rfl rfl rfl hg4B) (zah rfl) rfl <| RJ_gy (zab rfl rfl rfl hg4B) <| zaq ((zl6 (m:=Mb1) (n:=nd1) (z:=8) (by decide) (by decide))) rfl Tryz.call21 (Dels.cons del0 (Dels.cons del0 Dels.nil)) rfl fun r2 hc19 => ?_
      rw [(zjp (m:=Mb1) (z:=8) addE1).1]
      refine gP (zab rfl rfl rfl hg4B) (P_neq rfl rfl) rfl <| oP (za5 rfl hg4B rfl) rfl <| nT ?_
      first | (refine zao rfl (fun hg5 => ?_) (fun hg5 => ?_)) | (refine zap rfl (fun hg5 => ?_) (fun hg5 => ?_)) | (refine zar rfl (fun hg5 => ?_) (fun hg5 => ?_))
      ·
       refine sR <| oA rfl rfl <| oA rfl rfl <| nT <| zaj <| zae ?_
       exfalso; first | omega | (have z0 := addE0; have z1 := addE1; simp_all)
      ·
       refine kT <| sR <| oM rfl rfl <| oM rfl rfl <| oA rfl rfl <| oA rfl rfl <| nT <| zaj <| zan (res2 Tryz.results7 rfl rfl) <| CSpec.close ⟨nw.1,b11⟩ ?_ ?_ (Ent.trans (Ent.trans (t2_ (t2_ eR)) (zgy zod)) (Ent.trans (Ent.trans (t1_ (t1_ eR)) (zg3 zod)) (t1_ (t0_ (eD (eD (eD eR)))))))
       · rfl
       · trivial
 ·
  refine ⟨fun h=>absurd h (by decide),?_⟩
  refine AJ_op 0 3 rfl (by kernel_rfl) rfl (zac rfl) <| ze6 (t:=tyU) (m:=12) (x0:=(0:UInt64)) (z:=_) (bytes:=_) rfl rfl rfl rfl Tryz.underlying67 ⟨Tryz.t31,by kernel_rfl,rfl,rfl,rfl⟩ rfl (by decide) (by decide) rfl fun b20=>⟨fun h=>absurd h (by decide),?_⟩
  refine AJ_op 2 7 rfl (by kernel_rfl) rfl (zac rfl) <| za7 rfl (zh4 _ _ _ _ _ _) rfl fun b21=>⟨fun h=>absurd h (by decide),?_⟩
  refine zio (Ent.trans (t0_ eR) (zcd (t:=tyRow) (m:=2) [⟨some ⟨b20,0,none⟩,12,12⟩,⟨some ⟨b2,0,none⟩,8,8⟩] rfl rfl rfl (by decide))) <| zio (Ent.trans (t1_ (t1_ eR)) (fun h hh=>(stars_star.2 hh:stars (star [sl tyU (Sl3.v ⟨some ⟨b20,0,none⟩,12,12⟩) (List.replicate 12 0),sl tyU (Sl3.v ⟨some ⟨b2,0,none⟩,8,8⟩) (List.replicate 8 0)]::_) h))) <| AJ_op 3 15 rfl (by kernel_rfl) rfl (zac rfl) <| zaq ((zpw (vl:=⟨some ⟨b21,0,none⟩,2,2⟩) (v0:=⟨some ⟨b20,0,none⟩,12,12⟩) (v1:=⟨some ⟨b2,0,none⟩,8,8⟩))) rfl Tryz.call17 (Dels.cons del1 (Dels.cons del0 Dels.nil)) rfl fun a hc23=>⟨fun h=>absurd h (by decide),?_⟩
  refine aN 4 31 rfl rfl (zbc rfl) rfl <| aD <| sR <| oO <| zaq (zvu) rfl Tryz.call18 Dels.nil rfl fun nw hc27=>oP (zbm rfl (zkm)) rfl <| oO <| O_box rfl rfl rfl fun b28=>oA rfl rfl <| oA rfl rfl <| nT <| zad <| sR <| oM rfl rfl <| oP (zd3 rfl rfl Tryz.underlying65) rfl <| oM rfl rfl <| gP (zab rfl rfl rfl rfl) (zah rfl) rfl <| gP (zab rfl rfl rfl rfl) (zd3 rfl rfl Tryz.underlying25) rfl <| oP (za5 rfl rfl rfl) rfl <| nT <| zbf rfl rfl <| kT <| sR <| oM rfl rfl <| oO <| zaq ((zrn (z0:=12) (z1:=8) (by decide) (by decide) (by simp) (by rfl) (by rfl) (by decide))) rfl Tryz.call19 (Dels.cons del6 Dels.nil) rfl fun sp hc32=>oA rfl rfl <| nT <| zad <| zad <| zbd (Ent.trans (t6_ (t6_ (t3_ eR))) (zvt zqr rfl)) <| zbd zwg <| zbd (t0_ (t0_ (t0_ (Ent.takeC del0 (show _=blkR sp.2.1 161 [ptr a 0,.int .i64 ((0:Nat):Int),.int .i64 0,.int .i64 ((12:Nat):Int)] from rfl) (Ent.takeC del0 (show _=blkR sp.2.2 161 [ptr a 0,.int .i64 ((1:Nat):Int),.int .i64 0,.int .i64 ((8:Nat):Int)] from rfl) (Ent.takeC del0 (show _=blk b28 72 (zbi ⟨s3z,s3z,[]⟩ Md.z) from rfl) (Ent.takeC del0 (show _=blk nw.1 84 (za3 ⟨nw.2.1,nw.2.2,a,s3z,s3z,[],[],[],Sb⟩ Md.z) from rfl) (t0_ (t0_ eR))))))))) <| zai <| oM rfl rfl <| oV (V_len rfl foc2 (Reads.sl _ _ _) Tryz.runUnderlying73) rfl ?_
  refine oP (P_neq rfl rfl) rfl <| oM rfl rfl ?_
  first | (refine zbp 24 rfl (fun hg6B hg6 => ?_) (fun hg6B hg6 => ?_)) | (refine zbq 24 rfl (fun hg6B hg6 => ?_) (fun hg6B hg6 => ?_)) | (refine zbr 24 rfl (fun hg6B => ?_) (fun hg6B => ?_))
  ·
   refine RJ_gn (GY_no rfl rfl rfl hg6B) rfl rfl <| RJ_gn (GY_no rfl rfl rfl hg6B) rfl rfl <| RJ_gn (GY_no rfl rfl rfl hg6B) rfl rfl <| RJ_gn (GY_no rfl rfl rfl hg6B) rfl rfl <| RJ_gn (GY_no rfl rfl rfl hg6B) rfl rfl <| RJ_gn (GY_no rfl rfl rfl hg6B) rfl rfl <| oP (za2 rfl hg6B rfl) rfl <| oM rfl rfl <| RJ_gn (GY_no rfl rfl rfl rfl) rfl rfl <| RJ_gn (GY_no rfl rfl rfl rfl) rfl rfl <| RJ_gn (GY_no rfl rfl rfl rfl) rfl rfl <| RJ_gn (GY_no rfl rfl rfl rfl) rfl rfl <| RJ_gn (GY_no rfl rfl rfl rfl) rfl rfl <| RJ_gn (GY_no rfl rfl rfl rfl) rfl rfl <| oP (za2 rfl rfl rfl) rfl <| oM rfl rfl <| RJ_gn (GY_no rfl rfl rfl rfl) rfl rfl <| RJ_gn (GY_no rfl rfl rfl rfl) rfl rfl <| RJ_gn (GY_no rfl rfl rfl rfl) rfl rfl <| oP (za2 rfl rfl rfl) rfl <| oM rfl rfl <| RJ_gn (GY_no rfl rfl rfl rfl) rfl rfl <| RJ_gn (GY_no rfl rfl rfl rfl) rfl rfl <| RJ_gn (GY_no rfl rfl rfl rfl) rfl rfl <| oP (za2 rfl rfl rfl) rfl <| nT <| zbk rfl rfl <| sR <| oA rfl rfl <| oA rfl rfl <| nT <| zaj <| zae ?_
   exfalso; first | omega | (have z0 := addE0; have z1 := addE1; simp_all)
  ·
   refine gP (zab rfl rfl rfl hg6B) (zah rfl) rfl <| gP (zab rfl rfl rfl hg6B) (zah rfl) rfl ?_
   first | (refine RJ_gy (zab rfl rfl rfl hg6B) (OJ_V (zal rfl rfl rfl (by omega) foc2 (Reads.sl _ _ _) Tryz.runUnderlying73 Tryz.sizeOf39) rfl ?_)) | (refine RJ_gy (zab rfl rfl rfl hg6B) (OJ_V (zal rfl rfl (Int.toNat_of_nonneg (by omega)).symm (by omega) foc2 (Reads.sl _ _ _) Tryz.runUnderlying73 Tryz.sizeOf39) rfl ?_))
   refine gV (zab rfl rfl rfl hg6B) (zaz rfl rfl (by omega) foc2 (Reads.sl _ _ _) rfl rfl Tryz.isAgg39) rfl <| RJ_gy (zab rfl rfl rfl hg6B) <| zaq ((zn8 (c:=⟨nw.2.1,nw.2.2,a,s3z,s3z,[],[],[],Sb⟩) (m:=Md.z) (n:=nd0) (p:=sp.2.1) (dn:=0) (z:=12) (by decide) addE0 (by decide) (by simp) (by rw [zj3]; rfl) (fun i hi=>absurd hi.1 (Nat.not_lt_zero _)))) rfl Tryz.call20 (Dels.cons del3 (Dels.cons del5 (Dels.cons del1 Dels.nil))) rfl fun c1 hc1 => ?_
   obtain ⟨ov1,rfl⟩ := hc1
   refine gP (zab rfl rfl rfl hg6B) (P_neq rfl rfl) rfl <| oP (za5 rfl hg6B rfl) rfl <| oM rfl rfl ?_
   first | (refine zbp 32 rfl (fun hg7B hg7 => ?_) (fun hg7B hg7 => ?_)) | (refine zbq 32 rfl (fun hg7B hg7 => ?_) (fun hg7B hg7 => ?_)) | (refine zbr 32 rfl (fun hg7B => ?_) (fun hg7B => ?_))
   ·
    refine RJ_gn (GY_no rfl rfl rfl hg7B) rfl rfl <| RJ_gn (GY_no rfl rfl rfl hg7B) rfl rfl <| RJ_gn (GY_no rfl rfl rfl hg7B) rfl rfl <| RJ_gn (GY_no rfl rfl rfl hg7B) rfl rfl <| RJ_gn (GY_no rfl rfl rfl hg7B) rfl rfl <| RJ_gn (GY_no rfl rfl rfl hg7B) rfl rfl <| oP (za2 rfl hg7B rfl) rfl <| oM rfl rfl <| RJ_gn (GY_no rfl rfl rfl rfl) rfl rfl <| RJ_gn (GY_no rfl rfl rfl rfl) rfl rfl <| RJ_gn (GY_no rfl rfl rfl rfl) rfl rfl <| oP (za2 rfl rfl rfl) rfl <| oM rfl rfl <| RJ_gn (GY_no rfl rfl rfl rfl) rfl rfl <| RJ_gn (GY_no rfl rfl rfl rfl) rfl rfl <| RJ_gn (GY_no rfl rfl rfl rfl) rfl rfl <| oP (za2 rfl rfl rfl) rfl <| nT <| zbk rfl rfl <| sR <| oA rfl rfl <| oA rfl rfl <| nT <| zaj <| zae ?_
    exfalso; first | omega | (have z0 := addE0; have z1 := addE1; simp_all)
   ·
    refine gP (zab rfl rfl rfl hg7B) (zah rfl) rfl <| gP (zab rfl rfl rfl hg7B) (zah rfl) rfl ?_
    first | (refine RJ_gy (zab rfl rfl rfl hg7B) (OJ_V (zal rfl rfl rfl (by omega) foc3 (Reads.sl _ _ _) Tryz.runUnderlying73 Tryz.sizeOf39) rfl ?_)) | (refine RJ_gy (zab rfl rfl rfl hg7B) (OJ_V (zal rfl rfl (Int.toNat_of_nonneg (by omega)).symm (by omega) foc3 (Reads.sl _ _ _) Tryz.runUnderlying73 Tryz.sizeOf39) rfl ?_))
    refine gV (zab rfl rfl rfl hg7B) (zaz rfl rfl (by omega) foc3 (Reads.sl _ _ _) rfl rfl Tryz.isAgg39) rfl <| RJ_gy (zab rfl rfl rfl hg7B) (zaq ((zn8 (c:=(MH.push (⟨nw.2.1,nw.2.2,a,s3z,s3z,[],[],[],Sb⟩:MH) ov1 (MH.dl (⟨nw.2.1,nw.2.2,a,s3z,s3z,[],[],[],Sb⟩:MH)) (setM (MH.bl (⟨nw.2.1,nw.2.2,a,s3z,s3z,[],[],[],Sb⟩:MH)) nd0 sp.2.1) (hBas sp.2.1 0) (bNew nd0 12))) (m:=Mb1) (n:=nd1) (p:=sp.2.2) (dn:=1) (z:=8) (by decide) addE1 (by decide) (by simp) (by rw [zj3]; rfl) (fun i hi=>by
      have h0:i=0 := by have := hi.1; have e:Mb1.dv.length=1 := rfl; omega
      subst h0; exact (by decide:(0:Nat)≠1)))) rfl Tryz.call20 (Dels.cons del4 (Dels.cons del0 (Dels.cons del0 Dels.nil))) rfl (fun c2 hc2 => ?_))
    obtain ⟨ov2,rfl⟩ := hc2
    refine gP (zab rfl rfl rfl hg7B) (P_neq rfl rfl) rfl <| oP (za5 rfl hg7B rfl) rfl <| oM rfl rfl ?_
    first | (refine zbp 40 rfl (fun hg8B hg8 => ?_) (fun hg8B hg8 => ?_)) | (refine zbq 40 rfl (fun hg8B hg8 => ?_) (fun hg8B hg8 => ?_)) | (refine zbr 40 rfl (fun hg8B => ?_) (fun hg8B => ?_))
    ·
     refine RJ_gn (GY_no rfl rfl rfl hg8B) rfl rfl <| RJ_gn (GY_no rfl rfl rfl hg8B) rfl rfl <| RJ_gn (GY_no rfl rfl rfl hg8B) rfl rfl <| oP (za2 rfl hg8B rfl) rfl <| oM rfl rfl <| RJ_gn (GY_no rfl rfl rfl rfl) rfl rfl <| RJ_gn (GY_no rfl rfl rfl rfl) rfl rfl <| RJ_gn (GY_no rfl rfl rfl rfl) rfl rfl <| oP (za2 rfl rfl rfl) rfl <| nT <| zbk rfl rfl <| sR <| oA rfl rfl <| oA rfl rfl <| nT <| zaj <| zae ?_
     exfalso; first | omega | (have z0 := addE0; have z1 := addE1; simp_all)
    ·
     refine gP (zab rfl rfl rfl hg8B) (zah rfl) rfl <| RJ_gy (zab rfl rfl rfl hg8B) <| zaq ((zl6 (m:=Md.z) (n:=nd0) (z:=12) (by decide) (by decide))) rfl Tryz.call21 (Dels.cons del4 (Dels.cons del2 Dels.nil)) rfl fun r1 hc35 => ?_
     rw [(zjp (z:=12) addE0).1]
     refine gP (zab rfl rfl rfl hg8B) (P_neq rfl rfl) rfl <| oP (za5 rfl hg8B rfl) rfl <| oM rfl rfl ?_
     first | (refine zbp 45 rfl (fun hg9B hg9 => ?_) (fun hg9B hg9 => ?_)) | (refine zbq 45 rfl (fun hg9B hg9 => ?_) (fun hg9B hg9 => ?_)) | (refine zbr 45 rfl (fun hg9B => ?_) (fun hg9B => ?_))
     ·
      refine RJ_gn (GY_no rfl rfl rfl hg9B) rfl rfl <| RJ_gn (GY_no rfl rfl rfl hg9B) rfl rfl <| RJ_gn (GY_no rfl rfl rfl hg9B) rfl rfl <| oP (za2 rfl hg9B rfl) rfl <| nT <| zbk rfl rfl <| sR <| oA rfl rfl <| oA rfl rfl <| nT <| zaj <| zae ?_
      exfalso; first | omega | (have z0 := addE0; have z1 := addE1; simp_all)
     ·
      refine gP (zab rfl rfl rfl hg9B) (zah rfl) rfl <| RJ_gy (zab rfl rfl rfl hg9B) <| zaq ((zl6 (m:=Mb1) (n:=nd1) (z:=8) (by decide) (by decide))) rfl Tryz.call21 (Dels.cons del0 (Dels.cons del0 Dels.nil)) rfl fun r2 hc36 => ?_
      rw [(zjp (m:=Mb1) (z:=8) addE1).1]
      refine gP (zab rfl rfl rfl hg9B) (P_neq rfl rfl) rfl <| oP (za5 rfl hg9B rfl) rfl <| nT ?_
      first | (refine zao rfl (fun hg10 => ?_) (fun hg10 => ?_)) | (refine zap rfl (fun hg10 => ?_) (fun hg10 => ?_)) | (refine zar rfl (fun hg10 => ?_) (fun hg10 => ?_))
      ·
       refine sR <| oA rfl rfl <| oA rfl rfl <| nT <| zaj <| zae ?_
       exfalso; first | omega | (have z0 := addE0; have z1 := addE1; simp_all)
      ·
       refine kT <| sR <| oM rfl rfl <| oM rfl rfl <| oA rfl rfl <| oA rfl rfl <| nT <| zaj <| zan (res2 Tryz.results7 rfl rfl) <| CSpec.close ⟨nw.1,b28⟩ ?_ ?_ (Ent.trans (Ent.trans (t2_ (t2_ eR)) (zgy zod)) (Ent.trans (Ent.trans (t1_ (t1_ eR)) (zg3 zod)) (t1_ (t0_ (eD (eD (eD eR)))))))
       · rfl
       · trivial
end Go.Proofs
set_option linter.unusedSimpArgs false
set_option maxRecDepth 20000
namespace Go.Proofs
open Go.VG
theorem RefWF.tick {c:RH} {m:Md} (h:RefWF c m):RefWF c m.tick := ⟨h.dv,Md.tick_ok h.ok,Md.tick_big h.big⟩
theorem zpx {c:RH} {m:Md} {R:List HP} : Ent (RefR c m::R) (RefR c m.tick::R) := fun h hh=>by
  obtain ⟨h1,h2⟩ := stars_pur.1 (stars_star.1 hh)
  exact stars_star.2 (stars_pur.2 ⟨h1.tick,h2⟩)
theorem CSpec.conseq {P:Program} {W:World} {f:FuncId} {args:List Value} {pre pre':List HP} {X:Type} {res:X→Value} {pf:X→Prop} {post post':X→List HP→List HP} (h:CSpec P W f args pre res pf post) (h1:∀ F,Ent (pre' ++ F) (pre ++ F)) (h2:∀ x F,Ent (post x F) (post' x F)):CSpec P W f args pre' res pf post' := by
  intro F w hs
  refine (h F w (hs.imp (h1 F))).mono ?_
  rintro e w' ⟨x,q1,q2,q3⟩
  exact ⟨x,q1,q2,q3.imp (h2 x F)⟩
theorem CSpec.toR {W:World} {f:FuncId} {args:List Value} {b:Nat} {m m':Md} {v:Value} {G:List HP} (hm:MdOk m→MdBd m→MdBd m'.tick)
    (h:∀ c:RH,MdBd m→CSpec Tryz.prog W f args (blk b 72 (zbi c m)::RefR c m::G) (fun _:RH=>v) (fun _=>True) (fun c2 F=>blk b 72 (zbi c2 m')::RefR c2 m' :: (G ++ F))) :
    CSpec Tryz.prog W f args (RefP b m::G) (fun _:Unit=>v) (fun _=>True) (fun _ F=>RefP b m'.tick::(G ++ F)) := by
  intro F w hs
  obtain ⟨gg,hgg⟩ := hs.heap
  obtain ⟨c,h1⟩ := zlp _ hgg
  obtain ⟨hb,h2⟩ := stars_pur.1 h1
  have hO:MdOk m := (zci (H:=blk b 72 (zbi c m)::RefR c m::(G ++ F)) foc1 _ h2).ok
  refine (h c hb F w ⟨hs.os,hs.tape,hs.output,gg,h2⟩).mono ?_
  rintro e w' ⟨c2,h3,h4,h5⟩
  exact ⟨(),h3,trivial,h5.imp (Ent.trans (Ent.take del1 Ent.refl) (Ent.trans zpx (Ent.trans (Ent.take del1 Ent.refl) (zg3 (m:=m'.tick) (c:=c2) (hm hO hb)))))⟩
section
variable {W:World} {b:Nat} {m:Md} {n:ByteArray}
theorem ztt (hc:m.cl < 4000):CSpec Tryz.prog W 23 [ptr b 0,.string n] (RefP b m::[]) (fun _:Unit => .int .i64 (m.crE n)) (fun _=>True) (fun _ F=>RefP b (m.crS n).tick::([] ++ F)) :=
  CSpec.toR (fun hO h=>Md.bd_cr h hc) fun c hb=>by
    have g1 := hb.tks; have g2 := hb.told; have g3 := hb.wr; have g4 := hb.len; have g5 := hb.wl
    exact zvz (by omega)
theorem zx4 {A:HP} {v:Sl3} {l:List api_Target} (hA:Reads A tyapi_Target v.v l) (hc:m.cl < 4000):CSpec Tryz.prog W 29 [ptr b 0,.string n,v.v] (RefP b m::[A]) (fun _:Unit => .int .i64 (m.ldE n l)) (fun _=>True) (fun _ F=>RefP b (m.ldS n l).tick::([A] ++ F)) :=
  CSpec.toR (fun hO h=>Md.bd_ld h hc) fun c hb=>by
    have g1 := hb.tks; have g2 := hb.told; have g3 := hb.wr; have g4 := hb.len; have g5 := hb.wl
    exact CSpec.conseq (zzg hA) (fun F=>Ent.take del2 (Ent.take del0 (Ent.take del0 Ent.refl))) (fun c2 F=>Ent.take del1 (Ent.take del1 (Ent.take del0 Ent.refl)))
theorem ztu (hc:m.cl < 4000):CSpec Tryz.prog W 31 [ptr b 0,.string n] (RefP b m::[]) (fun _:Unit => .int .i64 (m.ulE n)) (fun _=>True) (fun _ F=>RefP b (m.ulS n).tick::([] ++ F)) :=
  CSpec.toR (fun hO h=>Md.bd_ul h hc) fun c hb=>by
    have g1 := hb.tks; have g2 := hb.told; have g3 := hb.wr; have g4 := hb.len; have g5 := hb.wl
    exact zv1
theorem zr5 (hc:m.cl < 4000):CSpec Tryz.prog W 33 [ptr b 0,.string n] (RefP b m::[]) (fun _:Unit => .int .i64 (m.suE n)) (fun _=>True) (fun _ F=>RefP b (m.suS n).tick::([] ++ F)) :=
  CSpec.toR (fun hO h=>Md.bd_su h hc) fun c hb=>by
    have g1 := hb.tks; have g2 := hb.told; have g3 := hb.wr; have g4 := hb.len; have g5 := hb.wl
    exact ztr
theorem ztv (hc:m.cl < 4000):CSpec Tryz.prog W 35 [ptr b 0,.string n] (RefP b m::[]) (fun _:Unit => .int .i64 (m.rsE n)) (fun _=>True) (fun _ F=>RefP b (m.rsS n).tick::([] ++ F)) :=
  CSpec.toR (fun hO h=>Md.bd_rs h hc) fun c hb=>by
    have g1 := hb.tks; have g2 := hb.told; have g3 := hb.wr; have g4 := hb.len; have g5 := hb.wl
    exact zv3 (by omega) (by omega) (by omega)
theorem ztw (hc:m.cl < 4000):CSpec Tryz.prog W 25 [ptr b 0,.string n] (RefP b m::[]) (fun _:Unit => .int .i64 (m.rmE n)) (fun _=>True) (fun _ F=>RefP b (m.rmS n).tick::([] ++ F)) :=
  CSpec.toR (fun hO h=>Md.bd_rm h hc) fun c hb=>by
    have g1 := hb.tks; have g2 := hb.told; have g3 := hb.wr; have g4 := hb.len; have g5 := hb.wl
    exact zv5
theorem ztx {to:ByteArray} (hc:m.cl < 4000):CSpec Tryz.prog W 27 [ptr b 0,.string n,.string to] (RefP b m::[]) (fun _:Unit => .int .i64 (m.rnE n to)) (fun _=>True) (fun _ F=>RefP b (m.rnS n to).tick::([] ++ F)) :=
  CSpec.toR (fun hO h=>Md.bd_rn h hc) fun c hb=>by
    have g1 := hb.tks; have g2 := hb.told; have g3 := hb.wr; have g4 := hb.len; have g5 := hb.wl
    exact zwe
theorem c_rDoP {t:api_Task} (hc:m.cl < 4000) (hb2 : -9223372036854775808≤t.At∧t.At≤9223372036854775807):CSpec Tryz.prog W 12 [ptr b 0,.string n,.agg #[.int .i64 t.Kind,.int .i64 t.At,.int .u64 (t.Value.toNat:Int)]] (RefP b m::[]) (fun _:Unit => .tuple #[.agg #[.bool (m.doA n t).Done,.int .i64 (m.doA n t).Ticket,.int .u64 ((m.doA n t).Value.toNat:Int),.int .i64 (m.doA n t).Error],.int .i64 (m.doE n t)]) (fun _=>True) (fun _ F=>RefP b (m.doS n t).tick::([] ++ F)) :=
  CSpec.toR (fun hO h=>Md.bd_do hO h hc) fun c hb=>by
    have g1 := hb.tks; have g2 := hb.told; have g3 := hb.wr; have g4 := hb.len; have g5 := hb.wl
    exact c_rDo (by omega) (by omega) (fun i=>by have := m.wait_le i; omega) hb2
end
theorem zr6 {W:World} {b:Nat} {m:Md} (hc:m.cl < 4000):CSpec Tryz.prog W 36 [ptr b 0] [RefP b m] (fun x:Sl3=>x.v) (fun _=>True) (fun x F=>sl tyapi_Answer x.v m.told::RefP b m.anS.tick::F) := by
  intro F w hs
  obtain ⟨gg,hgg⟩ := hs.heap
  obtain ⟨c,h1⟩ := zlp _ hgg
  obtain ⟨hb,h2⟩ := stars_pur.1 h1
  refine (ztq (b:=b) (c:=c) (m:=m) F w ⟨hs.os,hs.tape,hs.output,gg,h2⟩).mono ?_
  rintro e w' ⟨_,h3,h4,h5⟩
  exact ⟨c.tv,h3,trivial,h5.imp (Ent.trans (Ent.take del2 Ent.refl) (Ent.trans zpx (Ent.trans (Ent.take del2 Ent.refl) (Ent.trans (zg3 (m:=m.anS.tick) (c := { c with tv := s3z }) (Md.bd_an hb hc)) (Ent.take del1 Ent.refl)))))⟩
end Go.Proofs
set_option linter.unusedSimpArgs false
set_option maxRecDepth 20000
namespace Go.Proofs
open Go.VG
namespace Md
section
variable {m:Md} {n to:ByteArray} {l:List api_Target} {t:api_Task}
theorem cl_cr:(m.crS n).cl=m.cl := by unfold crS addS; split <;> rfl
theorem cl_rm:(m.rmS n).cl=m.cl := by
  unfold rmS
  cases m.find n with
  | none=>rfl
  | some k=>show (if _ then _ else _:Md).cl=_; split <;> rfl
theorem cl_rn:(m.rnS n to).cl=m.cl := by
  unfold rnS
  cases m.dev n with
  | none=>rfl
  | some k=>show (if _ then _ else _:Md).cl=_; split <;> rfl
theorem cl_ld:(m.ldS n l).cl=m.cl := by
  unfold ldS
  cases m.dev n with
  | none=>rfl
  | some k=>show (if _ then _ else _:Md).cl=_; split <;> rfl
theorem cl_ul:(m.ulS n).cl=m.cl := by
  unfold ulS
  cases m.dev n with
  | none=>rfl
  | some k=>show (if _ then _ else _:Md).cl=_; split <;> rfl
theorem cl_su:(m.suS n).cl=m.cl := by
  unfold suS
  cases m.dev n with
  | none=>rfl
  | some k=>show (if _ then _ else _:Md).cl=_; split <;> rfl
theorem cl_rs:(m.rsS n).cl=m.cl := by
  unfold rsS
  cases m.dev n with
  | none=>rfl
  | some k =>
    show (if _ then _ else _:Md).cl=_
    split
    · exact ((RsK.refl (m:=m.rs0 k)).foldl (m.at k).wait).cl
    · rfl
theorem cl_do:(m.doS n t).cl=m.cl := by
  unfold doS
  split
  · rfl
  · cases m.find n with
    | none=>rfl
    | some k =>
      show (match m.wayk k t with | some w=>_ | none=>_:Md).cl=_
      cases m.wayk k t with
      | none=>exact (carry_kept _ _ _).cl
      | some w=>rfl
theorem st_len (hO:MdOk m):(m.stD n).live.length≤64∧(m.stD n).new.length≤64 := by
  unfold stD
  cases m.dev n with
  | none=>exact ⟨Nat.zero_le _,Nat.zero_le _⟩
  | some k=>exact ⟨(zbx (hO.chk k).1).1,(zbx (hO.chk k).2).1⟩
end
end Md
theorem zs6 {b:Nat} {m:Md} {H:List HP} {C:HP→List HP} (hf:Foc H (MapP b m) C):∀ h,stars H h→MdBd m := fun h hh=>by
  obtain ⟨F,hp,_⟩ := hf.focus
  obtain ⟨c,h1⟩ := zi6 _ (zbn hp _ hh)
  exact (stars_pur.1 h1).1
theorem zs7:EqsAt Tryz.prog 51 (fun x => .agg ((tyapi_Answer).enc x).toArray) := znm (enc:=(tyapi_Answer).enc) (by kernel_rfl) (by kernel_rfl) (fun x y=>[(x.Done == y.Done),(x.Ticket == y.Ticket),((x.Value.toNat:Int) == (y.Value.toNat:Int)),(x.Error == y.Error)])
  (fun x y=>⟨by decide,⟨.bool x.Done,.bool y.Done,fun _=>by kernel_rfl,fun _=>by kernel_rfl,fun w=>run_equalIn_bool' w 9998 4 _ _ Tryz.underlying4⟩,⟨by decide,⟨.int .i64 x.Ticket,.int .i64 y.Ticket,fun _=>by kernel_rfl,fun _=>by kernel_rfl,fun w=>run_equalIn_int w 9998 3 _ _ _ _ Tryz.underlying3⟩,⟨by decide,⟨.int .u64 (x.Value.toNat:Int),.int .u64 (y.Value.toNat:Int),fun _=>by kernel_rfl,fun _=>by kernel_rfl,fun w=>run_equalIn_int w 9998 31 _ _ _ _ Tryz.underlying31⟩,⟨by decide,⟨.int .i64 x.Error,.int .i64 y.Error,fun _=>by kernel_rfl,fun _=>by kernel_rfl,fun w=>run_equalIn_int w 9998 40 _ _ _ _ Tryz.underlying40⟩,trivial⟩⟩⟩⟩)
  (fun x y=>by
  rw [Bool.eq_iff_iff]
  simp only [zwr,List.all_cons,List.all_nil,id,Bool.and_true,Bool.and_eq_true,decide_eq_true_eq,beq_iff_eq,api_Answer.ext_iff])
theorem zg4 {W:World} {b b2:Nat} {m:Md} {kd:Int} {nm to:ByteArray} {tv:Sl3} {tbl:List api_Target} {t:api_Task} {A:HP} (hA:Reads A tyapi_Target tv.v tbl) (htl:tbl.length≤100000000) (hc:m.cl < 4000) (hb : -9223372036854775808≤t.At∧t.At≤9223372036854775807) :
    CSpec Tryz.prog W 8 [ptr b 0,ptr b2 0,.agg #[.int .i64 kd,.string nm,.string to,tv.v,.int .i64 t.Kind,.int .i64 t.At,.int .u64 (t.Value.toNat:Int)]] [A,MapP b m,RefP b2 m] (fun _:Md => .bool true) (fun m2=>m2.cl=m.cl + 1) (fun m2 F=>A::MapP b m2::RefP b2 m2::F) := by
 refine CSpec.of_body Tryz.func8 rfl Tryz.ntmps8 rfl fun F => ?_
 show CJ _ _ _ _ _ _ (_::_::_::F)
 refine zba (zs6 foc1) fun hbd => ?_
 have htb := hbd.told
 have hcb := hbd.cl
 refine sR <| oO <| O_box rfl rfl rfl fun b1=>oA rfl rfl <| nT <| zad <| sR <| oP (zaa rfl ⟨_,_,_,Tryz.runUnderlying35,rfl,rfl,Tryz.sizeOf3,rfl⟩) rfl <| oV (zag rfl foc0 rfl Tryz.isAgg3) rfl <| nT <| zas <| sR <| oP (P_eql rfl rfl) rfl <| oA rfl rfl <| nT ?_
 first | (refine zao rfl (fun hg1 => ?_) (fun hg1 => ?_)) | (refine zap rfl (fun hg1 => ?_) (fun hg1 => ?_)) | (refine zar rfl (fun hg1 => ?_) (fun hg1 => ?_))
 ·
  refine zad <| zdl [blk b1 35 [.int .i64 kd,.string nm,.string to,tv.v,.int .i64 t.Kind,.int .i64 t.At,.int .u64 (t.Value.toNat:Int)]] 128 (by kernel_rfl) rfl <| aN 0 1 rfl rfl (zah rfl) rfl <| aN 1 3 rfl rfl (zaa rfl ⟨_,_,_,Tryz.runUnderlying35,rfl,rfl,Tryz.sizeOf9,rfl⟩) rfl <| aV 2 7 rfl rfl (zac rfl) (t0_ (eD (eD (eD (fun _ _=>trivial))))) (zag rfl foc0 rfl Tryz.isAgg9) rfl <| aN 4 23 rfl rfl (zah rfl) rfl <| aN 5 55 rfl rfl (zaa rfl ⟨_,_,_,Tryz.runUnderlying35,rfl,rfl,Tryz.sizeOf9,rfl⟩) rfl <| aV 6 119 rfl rfl (zac rfl) (t0_ (eD (eD (eD (fun _ _=>trivial))))) (zag rfl foc0 rfl Tryz.isAgg9) rfl <| AJ_op 3 127 rfl (by kernel_rfl) rfl (zac rfl) <| zaq ((zpq hc)) rfl Tryz.call22 (Dels.cons del2 Dels.nil) rfl fun _ hc2=>⟨fun _=>(t1_ (eD (eD (eD (fun _ _=>trivial))))),?_⟩
  refine AJ_op 7 255 rfl (by kernel_rfl) rfl (zac rfl) <| zaq ((ztt hc)) rfl Tryz.call23 (Dels.cons del3 Dels.nil) rfl fun _ hc3=>⟨fun h=>absurd h (by decide),?_⟩
  refine aN 8 511 rfl rfl (P_eql rfl rfl) rfl <| aN 9 1023 rfl rfl (zbc rfl) rfl <| aD <| zaj <| zam <| zae <| zan (res1 Tryz.results8 rfl) <| CSpec.close (m.crS nm).tick ?_ ?_ (t3_ (t1_ (t0_ (eD eR))))
  · simp
  · exact congrArg (· + 1) Md.cl_cr
 ·
  refine sR <| oP (P_eql rfl rfl) rfl <| oA rfl rfl <| nT ?_
  first | (refine zao rfl (fun hg2 => ?_) (fun hg2 => ?_)) | (refine zap rfl (fun hg2 => ?_) (fun hg2 => ?_)) | (refine zar rfl (fun hg2 => ?_) (fun hg2 => ?_))
  ·
   refine zad <| zdl [blk b1 35 [.int .i64 kd,.string nm,.string to,tv.v,.int .i64 t.Kind,.int .i64 t.At,.int .u64 (t.Value.toNat:Int)]] 128 (by kernel_rfl) rfl <| aN 0 1 rfl rfl (zah rfl) rfl <| aN 1 3 rfl rfl (zaa rfl ⟨_,_,_,Tryz.runUnderlying35,rfl,rfl,Tryz.sizeOf9,rfl⟩) rfl <| aV 2 7 rfl rfl (zac rfl) (t0_ (eD (eD (eD (fun _ _=>trivial))))) (zag rfl foc0 rfl Tryz.isAgg9) rfl <| aN 4 23 rfl rfl (zah rfl) rfl <| aN 5 55 rfl rfl (zaa rfl ⟨_,_,_,Tryz.runUnderlying35,rfl,rfl,Tryz.sizeOf9,rfl⟩) rfl <| aV 6 119 rfl rfl (zac rfl) (t0_ (eD (eD (eD (fun _ _=>trivial))))) (zag rfl foc0 rfl Tryz.isAgg9) rfl <| AJ_op 3 127 rfl (by kernel_rfl) rfl (zac rfl) <| zaq ((zvw hc)) rfl Tryz.call24 (Dels.cons del2 Dels.nil) rfl fun _ hc4=>⟨fun _=>(t1_ (eD (eD (eD (fun _ _=>trivial))))),?_⟩
   refine AJ_op 7 255 rfl (by kernel_rfl) rfl (zac rfl) <| zaq ((ztw hc)) rfl Tryz.call25 (Dels.cons del3 Dels.nil) rfl fun _ hc5=>⟨fun h=>absurd h (by decide),?_⟩
   refine aN 8 511 rfl rfl (P_eql rfl rfl) rfl <| aN 9 1023 rfl rfl (zbc rfl) rfl <| aD <| zaj <| zam <| zae <| zan (res1 Tryz.results8 rfl) <| CSpec.close (m.rmS nm).tick ?_ ?_ (t3_ (t1_ (t0_ (eD eR))))
   · simp
   · exact congrArg (· + 1) Md.cl_rm
  ·
   refine sR <| oP (P_eql rfl rfl) rfl <| oA rfl rfl <| nT ?_
   first | (refine zao rfl (fun hg3 => ?_) (fun hg3 => ?_)) | (refine zap rfl (fun hg3 => ?_) (fun hg3 => ?_)) | (refine zar rfl (fun hg3 => ?_) (fun hg3 => ?_))
   ·
    refine zad <| zdl [blk b1 35 [.int .i64 kd,.string nm,.string to,tv.v,.int .i64 t.Kind,.int .i64 t.At,.int .u64 (t.Value.toNat:Int)]] 2048 (by kernel_rfl) rfl <| aN 0 1 rfl rfl (zah rfl) rfl <| aN 1 3 rfl rfl (zaa rfl ⟨_,_,_,Tryz.runUnderlying35,rfl,rfl,Tryz.sizeOf9,rfl⟩) rfl <| aV 2 7 rfl rfl (zac rfl) (t0_ (eD (eD (eD (fun _ _=>trivial))))) (zag rfl foc0 rfl Tryz.isAgg9) rfl <| aN 3 15 rfl rfl (zaa rfl ⟨_,_,_,Tryz.runUnderlying35,rfl,rfl,Tryz.sizeOf9,rfl⟩) rfl <| aV 4 31 rfl rfl (zac rfl) (t0_ (eD (eD (eD (fun _ _=>trivial))))) (zag rfl foc0 rfl Tryz.isAgg9) rfl <| aN 6 95 rfl rfl (zah rfl) rfl <| aN 7 223 rfl rfl (zaa rfl ⟨_,_,_,Tryz.runUnderlying35,rfl,rfl,Tryz.sizeOf9,rfl⟩) rfl <| aV 8 479 rfl rfl (zac rfl) (t0_ (eD (eD (eD (fun _ _=>trivial))))) (zag rfl foc0 rfl Tryz.isAgg9) rfl <| aN 9 991 rfl rfl (zaa rfl ⟨_,_,_,Tryz.runUnderlying35,rfl,rfl,Tryz.sizeOf9,rfl⟩) rfl <| aV 10 2015 rfl rfl (zac rfl) (t0_ (eD (eD (eD (fun _ _=>trivial))))) (zag rfl foc0 rfl Tryz.isAgg9) rfl <| AJ_op 5 2047 rfl (by kernel_rfl) rfl (zac rfl) <| zaq ((zwf hc)) rfl Tryz.call26 (Dels.cons del2 Dels.nil) rfl fun _ hc6=>⟨fun _=>(t1_ (eD (eD (eD (fun _ _=>trivial))))),?_⟩
    refine AJ_op 11 4095 rfl (by kernel_rfl) rfl (zac rfl) <| zaq ((ztx hc)) rfl Tryz.call27 (Dels.cons del3 Dels.nil) rfl fun _ hc7=>⟨fun h=>absurd h (by decide),?_⟩
    refine aN 12 8191 rfl rfl (P_eql rfl rfl) rfl <| aN 13 16383 rfl rfl (zbc rfl) rfl <| aD <| zaj <| zam <| zae <| zan (res1 Tryz.results8 rfl) <| CSpec.close (m.rnS nm to).tick ?_ ?_ (t3_ (t1_ (t0_ (eD eR))))
    · simp
    · exact congrArg (· + 1) Md.cl_rn
   ·
    refine sR <| oP (P_eql rfl rfl) rfl <| oA rfl rfl <| nT ?_
    first | (refine zao rfl (fun hg4 => ?_) (fun hg4 => ?_)) | (refine zap rfl (fun hg4 => ?_) (fun hg4 => ?_)) | (refine zar rfl (fun hg4 => ?_) (fun hg4 => ?_))
    ·
     refine zad <| zdl [blk b1 35 [.int .i64 kd,.string nm,.string to,tv.v,.int .i64 t.Kind,.int .i64 t.At,.int .u64 (t.Value.toNat:Int)]] 2048 (by kernel_rfl) rfl <| aN 0 1 rfl rfl (zah rfl) rfl <| aN 1 3 rfl rfl (zaa rfl ⟨_,_,_,Tryz.runUnderlying35,rfl,rfl,Tryz.sizeOf9,rfl⟩) rfl <| aV 2 7 rfl rfl (zac rfl) (t0_ (eD (eD (eD (fun _ _=>trivial))))) (zag rfl foc0 rfl Tryz.isAgg9) rfl <| aN 3 15 rfl rfl (zaa rfl ⟨_,_,_,Tryz.runUnderlying35,rfl,rfl,Tryz.sizeOf30,rfl⟩) rfl <| aV 4 31 rfl rfl (zac rfl) (t0_ (eD (eD (eD (fun _ _=>trivial))))) (zag rfl foc0 rfl Tryz.isAgg30) rfl <| aN 6 95 rfl rfl (zah rfl) rfl <| aN 7 223 rfl rfl (zaa rfl ⟨_,_,_,Tryz.runUnderlying35,rfl,rfl,Tryz.sizeOf9,rfl⟩) rfl <| aV 8 479 rfl rfl (zac rfl) (t0_ (eD (eD (eD (fun _ _=>trivial))))) (zag rfl foc0 rfl Tryz.isAgg9) rfl <| aN 9 991 rfl rfl (zaa rfl ⟨_,_,_,Tryz.runUnderlying35,rfl,rfl,Tryz.sizeOf30,rfl⟩) rfl <| aV 10 2015 rfl rfl (zac rfl) (t0_ (eD (eD (eD (fun _ _=>trivial))))) (zag rfl foc0 rfl Tryz.isAgg30) rfl <| AJ_op 5 2047 rfl (by kernel_rfl) rfl (zac rfl) <| zaq ((zsy hA hc htl)) rfl Tryz.call28 (Dels.cons del2 (Dels.cons del1 Dels.nil)) rfl fun _ hc8=>⟨fun _=>(t2_ (eD (eD (eD (fun _ _=>trivial))))),?_⟩
     refine AJ_op 11 4095 rfl (by kernel_rfl) rfl (zac rfl) <| zaq ((zx4 hA hc)) rfl Tryz.call29 (Dels.cons del3 (Dels.cons del1 Dels.nil)) rfl fun _ hc9=>⟨fun h=>absurd h (by decide),?_⟩
     refine aN 12 8191 rfl rfl (P_eql rfl rfl) rfl <| aN 13 16383 rfl rfl (zbc rfl) rfl <| aD <| zaj <| zam <| zae <| zan (res1 Tryz.results8 rfl) <| CSpec.close (m.ldS nm tbl).tick ?_ ?_ (t1_ (t1_ (t0_ (eD eR))))
     · simp
     · exact congrArg (· + 1) Md.cl_ld
    ·
     refine sR <| oP (P_eql rfl rfl) rfl <| oA rfl rfl <| nT ?_
     first | (refine zao rfl (fun hg5 => ?_) (fun hg5 => ?_)) | (refine zap rfl (fun hg5 => ?_) (fun hg5 => ?_)) | (refine zar rfl (fun hg5 => ?_) (fun hg5 => ?_))
     ·
      refine zad <| zdl [blk b1 35 [.int .i64 kd,.string nm,.string to,tv.v,.int .i64 t.Kind,.int .i64 t.At,.int .u64 (t.Value.toNat:Int)]] 128 (by kernel_rfl) rfl <| aN 0 1 rfl rfl (zah rfl) rfl <| aN 1 3 rfl rfl (zaa rfl ⟨_,_,_,Tryz.runUnderlying35,rfl,rfl,Tryz.sizeOf9,rfl⟩) rfl <| aV 2 7 rfl rfl (zac rfl) (t0_ (eD (eD (eD (fun _ _=>trivial))))) (zag rfl foc0 rfl Tryz.isAgg9) rfl <| aN 4 23 rfl rfl (zah rfl) rfl <| aN 5 55 rfl rfl (zaa rfl ⟨_,_,_,Tryz.runUnderlying35,rfl,rfl,Tryz.sizeOf9,rfl⟩) rfl <| aV 6 119 rfl rfl (zac rfl) (t0_ (eD (eD (eD (fun _ _=>trivial))))) (zag rfl foc0 rfl Tryz.isAgg9) rfl <| AJ_op 3 127 rfl (by kernel_rfl) rfl (zac rfl) <| zaq ((zvv hc)) rfl Tryz.call30 (Dels.cons del2 Dels.nil) rfl fun _ hc10=>⟨fun _=>(t1_ (eD (eD (eD (fun _ _=>trivial))))),?_⟩
      refine AJ_op 7 255 rfl (by kernel_rfl) rfl (zac rfl) <| zaq ((ztu hc)) rfl Tryz.call31 (Dels.cons del3 Dels.nil) rfl fun _ hc11=>⟨fun h=>absurd h (by decide),?_⟩
      refine aN 8 511 rfl rfl (P_eql rfl rfl) rfl <| aN 9 1023 rfl rfl (zbc rfl) rfl <| aD <| zaj <| zam <| zae <| zan (res1 Tryz.results8 rfl) <| CSpec.close (m.ulS nm).tick ?_ ?_ (t3_ (t1_ (t0_ (eD eR))))
      · simp
      · exact congrArg (· + 1) Md.cl_ul
     ·
      refine sR <| oP (P_eql rfl rfl) rfl <| oA rfl rfl <| nT ?_
      first | (refine zao rfl (fun hg6 => ?_) (fun hg6 => ?_)) | (refine zap rfl (fun hg6 => ?_) (fun hg6 => ?_)) | (refine zar rfl (fun hg6 => ?_) (fun hg6 => ?_))
      ·
       refine zad <| zdl [blk b1 35 [.int .i64 kd,.string nm,.string to,tv.v,.int .i64 t.Kind,.int .i64 t.At,.int .u64 (t.Value.toNat:Int)]] 128 (by kernel_rfl) rfl <| aN 0 1 rfl rfl (zah rfl) rfl <| aN 1 3 rfl rfl (zaa rfl ⟨_,_,_,Tryz.runUnderlying35,rfl,rfl,Tryz.sizeOf9,rfl⟩) rfl <| aV 2 7 rfl rfl (zac rfl) (t0_ (eD (eD (eD (fun _ _=>trivial))))) (zag rfl foc0 rfl Tryz.isAgg9) rfl <| aN 4 23 rfl rfl (zah rfl) rfl <| aN 5 55 rfl rfl (zaa rfl ⟨_,_,_,Tryz.runUnderlying35,rfl,rfl,Tryz.sizeOf9,rfl⟩) rfl <| aV 6 119 rfl rfl (zac rfl) (t0_ (eD (eD (eD (fun _ _=>trivial))))) (zag rfl foc0 rfl Tryz.isAgg9) rfl <| AJ_op 3 127 rfl (by kernel_rfl) rfl (zac rfl) <| zaq ((zkd hc)) rfl Tryz.call32 (Dels.cons del2 Dels.nil) rfl fun _ hc12=>⟨fun _=>(t1_ (eD (eD (eD (fun _ _=>trivial))))),?_⟩
       refine AJ_op 7 255 rfl (by kernel_rfl) rfl (zac rfl) <| zaq ((zr5 hc)) rfl Tryz.call33 (Dels.cons del3 Dels.nil) rfl fun _ hc13=>⟨fun h=>absurd h (by decide),?_⟩
       refine aN 8 511 rfl rfl (P_eql rfl rfl) rfl <| aN 9 1023 rfl rfl (zbc rfl) rfl <| aD <| zaj <| zam <| zae <| zan (res1 Tryz.results8 rfl) <| CSpec.close (m.suS nm).tick ?_ ?_ (t3_ (t1_ (t0_ (eD eR))))
       · simp
       · exact congrArg (· + 1) Md.cl_su
      ·
       refine sR <| oP (P_eql rfl rfl) rfl <| oA rfl rfl <| nT ?_
       first | (refine zao rfl (fun hg7 => ?_) (fun hg7 => ?_)) | (refine zap rfl (fun hg7 => ?_) (fun hg7 => ?_)) | (refine zar rfl (fun hg7 => ?_) (fun hg7 => ?_))
       ·
        refine zad <| zdl [blk b1 35 [.int .i64 kd,.string nm,.string to,tv.v,.int .i64 t.Kind,.int .i64 t.At,.int .u64 (t.Value.toNat:Int)]] 128 (by kernel_rfl) rfl <| aN 0 1 rfl rfl (zah rfl) rfl <| aN 1 3 rfl rfl (zaa rfl ⟨_,_,_,Tryz.runUnderlying35,rfl,rfl,Tryz.sizeOf9,rfl⟩) rfl <| aV 2 7 rfl rfl (zac rfl) (t0_ (eD (eD (eD (fun _ _=>trivial))))) (zag rfl foc0 rfl Tryz.isAgg9) rfl <| aN 4 23 rfl rfl (zah rfl) rfl <| aN 5 55 rfl rfl (zaa rfl ⟨_,_,_,Tryz.runUnderlying35,rfl,rfl,Tryz.sizeOf9,rfl⟩) rfl <| aV 6 119 rfl rfl (zac rfl) (t0_ (eD (eD (eD (fun _ _=>trivial))))) (zag rfl foc0 rfl Tryz.isAgg9) rfl <| AJ_op 3 127 rfl (by kernel_rfl) rfl (zac rfl) <| zaq ((zll hc)) rfl Tryz.call34 (Dels.cons del2 Dels.nil) rfl fun _ hc14=>⟨fun _=>(t1_ (eD (eD (eD (fun _ _=>trivial))))),?_⟩
        refine AJ_op 7 255 rfl (by kernel_rfl) rfl (zac rfl) <| zaq ((ztv hc)) rfl Tryz.call35 (Dels.cons del3 Dels.nil) rfl fun _ hc15=>⟨fun h=>absurd h (by decide),?_⟩
        refine aN 8 511 rfl rfl (P_eql rfl rfl) rfl <| aN 9 1023 rfl rfl (zbc rfl) rfl <| aD <| zaj <| zam <| zae <| zan (res1 Tryz.results8 rfl) <| CSpec.close (m.rsS nm).tick ?_ ?_ (t3_ (t1_ (t0_ (eD eR))))
        · simp
        · exact congrArg (· + 1) Md.cl_rs
       ·
        refine sR <| oP (P_eql rfl rfl) rfl <| oA rfl rfl <| nT ?_
        first | (refine zao rfl (fun hg8 => ?_) (fun hg8 => ?_)) | (refine zap rfl (fun hg8 => ?_) (fun hg8 => ?_)) | (refine zar rfl (fun hg8 => ?_) (fun hg8 => ?_))
        ·
         refine sR <| oM rfl rfl <| oO <| zaq ((zoa hc)) rfl Tryz.call13 (Dels.cons del2 Dels.nil) rfl fun _ hc17=>oM rfl rfl <| oO <| zaq ((zr6 hc)) rfl Tryz.call36 (Dels.cons del4 Dels.nil) rfl fun _ hc19=>oA rfl rfl <| oA rfl rfl <| nT <| zad <| sR <| oM rfl rfl <| oV (V_len rfl foc2 (Reads.sl _ _ _) Tryz.runUnderlying54) rfl <| oM rfl rfl <| oV (V_len rfl foc0 (Reads.sl _ _ _) Tryz.runUnderlying54) rfl <| oP (P_neq rfl rfl) rfl <| nT ?_
         first | (refine zbf rfl (decide_eq_false (by simp)) ?_) | (refine zbf rfl (by simp) ?_)
         refine kT <| zad <| sR <| oA rfl rfl <| nT <| zas <| zbe (X:=Nat) [6,9,112,113,114,115,116,117,118,119,120,121,122,123,124,125,126] (fun i  => ([(9,.int .i64 (i:Nat))]:Slots)) (fun i R=>R) (fun i  => i≤m.told.length) (fun i  => m.told.length - i) (0) ?_ ?_ (t0_ (t0_ (t0_ (t0_ (t0_ (t0_ eR)))))) ?_
         · exact Nat.zero_le _
         · exact ⟨rfl,True.intro⟩
         ·
          intro i hi
          show CJ _ _ _ _ _ (([(9,.int .i64 (i:Nat))]:Slots) ++ forget _ _) (_)
          refine zad <| sR <| oM rfl rfl <| oM rfl rfl <| oV (V_len rfl foc2 (Reads.sl _ _ _) Tryz.runUnderlying54) rfl <| oP (P_lss rfl rfl) rfl <| nT ?_
          first | (refine zao rfl (fun hg10 => ?_) (fun hg10 => ?_)) | (refine zap rfl (fun hg10 => ?_) (fun hg10 => ?_)) | (refine zar rfl (fun hg10 => ?_) (fun hg10 => ?_))
          ·
           refine kT <| zad <| zas <| zad <| za4 0 (by kernel_rfl) rfl <| aN 0 1 rfl rfl (zah rfl) rfl <| aN 1 3 rfl rfl (zah rfl) rfl ?_
           first | (refine za9 2 7 rfl (by kernel_rfl) rfl (by kernel_rfl) (by kernel_rfl) (zac rfl) (t0_ (t0_ (t0_ (t0_ (t0_ (t0_ eR)))))) (zal rfl rfl rfl (by omega) foc2 (Reads.sl _ _ _) Tryz.runUnderlying54 Tryz.sizeOf51) rfl (fun _ _ _ _ h=>h) ?_) | (refine za9 2 7 rfl (by kernel_rfl) rfl (by kernel_rfl) (by kernel_rfl) (zac rfl) (t0_ (t0_ (t0_ (t0_ (t0_ (t0_ eR)))))) (zal rfl rfl (Int.toNat_of_nonneg (by omega)).symm (by omega) foc2 (Reads.sl _ _ _) Tryz.runUnderlying54 Tryz.sizeOf51) rfl (fun _ _ _ _ h=>h) ?_)
           refine aV 3 15 rfl rfl (zac rfl) (t0_ (t0_ (t0_ (t0_ (t0_ (t0_ eR)))))) (zb7 rfl rfl (by omega) foc2 (Reads.sl _ _ _) rfl rfl Tryz.isAgg51 Tryz.sizeOf51) rfl <| aN 4 31 rfl rfl (zah rfl) rfl <| aN 5 63 rfl rfl (zah rfl) rfl ?_
           first | (refine za9 6 127 rfl (by kernel_rfl) rfl (by kernel_rfl) (by kernel_rfl) (zac rfl) (t0_ (t0_ (t0_ (t0_ (t0_ (t0_ eR)))))) (zal rfl rfl rfl (by omega) foc0 (Reads.sl _ _ _) Tryz.runUnderlying54 Tryz.sizeOf51) rfl (fun _ _ _ _ h=>h) ?_) | (refine za9 6 127 rfl (by kernel_rfl) rfl (by kernel_rfl) (by kernel_rfl) (zac rfl) (t0_ (t0_ (t0_ (t0_ (t0_ (t0_ eR)))))) (zal rfl rfl (Int.toNat_of_nonneg (by omega)).symm (by omega) foc0 (Reads.sl _ _ _) Tryz.runUnderlying54 Tryz.sizeOf51) rfl (fun _ _ _ _ h=>h) ?_)
           refine aV 7 255 rfl rfl (zac rfl) (t0_ (t0_ (t0_ (t0_ (t0_ (t0_ eR)))))) (zb7 rfl rfl (by omega) foc0 (Reads.sl _ _ _) rfl rfl Tryz.isAgg51 Tryz.sizeOf51) rfl <| aN 8 511 rfl rfl (zuk (enc:=(tyapi_Answer).enc) (m.told.getD i tyapi_Answer.dflt) (m.told.getD i tyapi_Answer.dflt) rfl rfl zs7 (by kernel_rfl)) rfl <| aD ?_
           first | (refine zbf rfl (decide_eq_false (by simp)) ?_) | (refine zbf rfl (by simp) ?_)
           refine za8 <| zak <| zat <| zai <| oM rfl rfl <| oP (P_add rfl rfl (by omega)) rfl <| oA rfl rfl <| za0 <| za6 (i + 1) (by first | omega | (simp only []; omega)) ?_ (by repeat (first | exact Kp.base | exact Kp.self | refine Kp.cons rfl ?_ | refine Kp.forget rfl ?_)) ?_ (t0_ (t0_ (t0_ (t0_ (t0_ (t0_ eR))))))
           · omega
           · exact ⟨rfl,True.intro⟩
          ·
           refine zbg <| zaw <| zav <| zau <| zat <| sR <| oA rfl rfl <| nT <| zaj <| zam <| zae <| zan (res1 Tryz.results8 rfl) <| CSpec.close (m.anS).tick ?_ ?_ (t5_ (t3_ (t1_ (eD (eD (eD eR))))))
           · simp
           · rfl
        ·
         refine za8 <| zak <| zat <| sR <| oM rfl rfl <| oP (zaa rfl ⟨_,_,_,Tryz.runUnderlying35,rfl,rfl,Tryz.sizeOf9,rfl⟩) rfl <| oV (zag rfl foc0 rfl Tryz.isAgg9) rfl <| oP (zaa rfl ⟨_,_,_,Tryz.runUnderlying35,rfl,rfl,Tryz.sizeOf33,rfl⟩) rfl <| oV (zbo rfl foc0 Tryz.isAgg33 Tryz.sizeOf33 rfl rfl) rfl <| oO <| zaq ((c_DoP (t:=t) hc hb)) rfl Tryz.call37 (Dels.cons del2 Dels.nil) rfl fun _ hc20=>oM rfl rfl <| oP (za1 rfl rfl) rfl <| oP (za1 rfl rfl) rfl <| oO <| zb1 Tryz.zeroValue51 rfl rfl fun b21=>oO <| zbj rfl rfl foc0 Tryz.sizeOf51 rfl rfl rfl <| oA rfl rfl <| nT <| sR <| oM rfl rfl <| oP (zaa rfl ⟨_,_,_,Tryz.runUnderlying35,rfl,rfl,Tryz.sizeOf9,rfl⟩) rfl <| oV (zag rfl foc2 rfl Tryz.isAgg9) rfl <| oP (zaa rfl ⟨_,_,_,Tryz.runUnderlying35,rfl,rfl,Tryz.sizeOf33,rfl⟩) rfl <| oV (zbo rfl foc2 Tryz.isAgg33 Tryz.sizeOf33 rfl rfl) rfl <| oO <| zaq ((c_rDoP (t:=t) hc hb)) rfl Tryz.call12 (Dels.cons del4 Dels.nil) rfl fun _ hc22=>oM rfl rfl <| oP (za1 rfl rfl) rfl <| oP (za1 rfl rfl) rfl <| oO <| zb1 Tryz.zeroValue51 rfl rfl fun b23=>oO <| zbj rfl rfl foc0 Tryz.sizeOf51 rfl rfl rfl <| oA rfl rfl <| nT <| sR <| oM rfl rfl <| oM rfl rfl <| oP (P_eql rfl rfl) rfl <| oM rfl rfl ?_
         first | (refine zc9 148 true rfl (decide_eq_true (by simp)) (fun hg12B => ?_)) | (refine zc9 148 true rfl (by simp) (fun hg12B => ?_))
         refine gV (zab rfl rfl rfl hg12B) (zbo rfl foc2 Tryz.isAgg51 Tryz.sizeOf51 rfl rfl) rfl <| gV (zab rfl rfl rfl hg12B) (zbo rfl foc0 Tryz.isAgg51 Tryz.sizeOf51 rfl rfl) rfl <| gP (zab rfl rfl rfl hg12B) (P_eqlS (enc:=(tyapi_Answer).enc) (m.doA nm t) (m.doA nm t) rfl rfl zs7 (by kernel_rfl)) rfl <| oP (za2 rfl hg12B rfl) rfl <| oA rfl rfl <| nT <| zaj <| zan (res1 Tryz.results8 rfl) <| CSpec.close (m.doS nm t).tick ?_ ?_ (t5_ (t3_ (t1_ (eD (eD (eD eR))))))
         · simp
         · exact congrArg (· + 1) Md.cl_do
end Go.Proofs
set_option linter.unusedSimpArgs false
set_option maxRecDepth 20000
namespace Go.Proofs
open Go.VG
theorem zmf (v0:ByteArray) (v1:ByteArray):zbt Tryz.prog 59 2 [(0,.string v0),(1,.string v1)] 9 [.string v0,.string v1] := fun w=>by kernel_rfl
theorem znb (v0:Int) (v1:Int):∀ w,(Instr.build 33 (#[(0,.int .i64 v0),(1,.int .i64 v1)]:Array (Nat × Value))).run Tryz.prog w = .ok (.agg #[.int .i64 v0,.int .i64 v1,.int .u64 0]) w := fun w=>by kernel_rfl
theorem zlq (v0:Int) (v1:ByteArray) (v2:Int) (v3:Int) (v4:Int):∀ w,(Instr.build 35 (#[(0,.int .i64 v0),(1,.string v1),(4,.agg #[.int .i64 v2,.int .i64 v3,.int .u64 v4])]:Array (Nat × Value))).run Tryz.prog w = .ok (.agg #[.int .i64 v0,.string v1,.string ByteArray.empty,.slice none 0 0,.int .i64 v2,.int .i64 v3,.int .u64 v4]) w := fun w=>by kernel_rfl
theorem zty {b:Nat} {m:Md} {R:List HP} : EntX (MapP b m::R) fun c:MH=>blk b 84 (za3 c m)::MapR c m::R := fun _ hh=>let ⟨c,hc⟩ := zi6 _ hh; ⟨c,(stars_pur.1 hc).2⟩
theorem ztz {b:Nat} {m:Md} {R:List HP} : EntX (RefP b m::R) fun c:RH=>blk b 72 (zbi c m)::RefR c m::R := fun _ hh=>let ⟨c,hc⟩ := zlp _ hh; ⟨c,(stars_pur.1 hc).2⟩
theorem zwh {W:World} {b b2:Nat} {m:Md} {v:Value} {ns:List ByteArray} {A:HP} (hA:Reads A tyS v ns) (hl:ns.length≤1000000) (hc:m.cl + 24 < 4000) :
    CSpec Tryz.prog W 15 [ptr b 0,ptr b2 0,v] [A,MapP b m,RefP b2 m] (fun _:Md => .bool true) (fun m2=>m2.cl=m.cl + 24) (fun m2 F=>A::MapP b m2::RefP b2 m2::F) := by
 refine CSpec.of_body Tryz.func15 rfl Tryz.ntmps15 rfl fun F => ?_
 show CJ _ _ _ _ _ _ (_::_::_::F)
 refine zba (zs6 foc1) fun hbd => ?_
 have hbg := hbd.big
 refine zet (Ent.transX (t1_ eR) zty) fun c=>zet (Ent.transX (t3_ eR) ztz) fun c2=>zba (zb4 foc3) fun hW => ?_
 have hO := hW.ok
 have hns := Md.names_len (m:=m)
 have hln := hW.big.len
 refine sR <| oA rfl rfl <| nT <| sR <| oM rfl rfl <| oO <| zaq (zy1) rfl Tryz.call42 (Dels.cons del2 (Dels.cons del2 Dels.nil)) rfl fun _ hc2=>oM rfl rfl <| oO <| zaq (zrf) rfl Tryz.call43 (Dels.cons del3 (Dels.cons del3 Dels.nil)) rfl fun _ hc4=>oA rfl rfl <| oA rfl rfl <| nT <| zad <| sR <| oM rfl rfl <| oV (V_len rfl foc3 (Reads.sl _ _ _) Tryz.runUnderlying59) rfl <| oM rfl rfl <| oV (V_len rfl foc0 (Reads.sl _ _ _) Tryz.runUnderlying59) rfl <| oP (P_neq rfl rfl) rfl <| nT ?_
 first | (refine zbf rfl (decide_eq_false (by simp)) ?_) | (refine zbf rfl (by simp) ?_)
 refine kT <| zad <| sR <| oA rfl rfl <| nT <| zas <| zbe (X:=Nat) [6,9,26,27,28,29,30,31,32,33,34,35,36,37,38,39,40] (fun i  => ([(9,.int .i64 (i:Nat))]:Slots)) (fun i R=>R) (fun i  => i≤m.names.length) (fun i  => m.names.length - i) (0) ?_ ?_ (t0_ (t0_ (t0_ (t0_ (t0_ (t0_ (t0_ eR))))))) ?_
 · exact Nat.zero_le _
 · exact ⟨rfl,True.intro⟩
 ·
  intro i hi
  show CJ _ _ _ _ _ (([(9,.int .i64 (i:Nat))]:Slots) ++ forget _ _) (_)
  refine zad <| sR <| oM rfl rfl <| oM rfl rfl <| oV (V_len rfl foc3 (Reads.sl _ _ _) Tryz.runUnderlying59) rfl <| oP (P_lss rfl rfl) rfl <| nT ?_
  first | (refine zao rfl (fun hg2 => ?_) (fun hg2 => ?_)) | (refine zap rfl (fun hg2 => ?_) (fun hg2 => ?_)) | (refine zar rfl (fun hg2 => ?_) (fun hg2 => ?_))
  ·
   refine kT <| zad <| zas <| zad <| za4 0 (by kernel_rfl) rfl <| aN 0 1 rfl rfl (zah rfl) rfl <| aN 1 3 rfl rfl (zah rfl) rfl ?_
   first | (refine za9 2 7 rfl (by kernel_rfl) rfl (by kernel_rfl) (by kernel_rfl) (zac rfl) (t0_ (t0_ (t0_ (t0_ (t0_ (t0_ (t0_ eR))))))) (zal rfl rfl rfl (by first | omega | (show i < 2; omega)) foc3 (Reads.sl _ _ _) Tryz.runUnderlying59 Tryz.sizeOf9) rfl (fun _ _ _ _ h=>h) ?_) | (refine za9 2 7 rfl (by kernel_rfl) rfl (by kernel_rfl) (by kernel_rfl) (zac rfl) (t0_ (t0_ (t0_ (t0_ (t0_ (t0_ (t0_ eR))))))) (zal rfl rfl (Int.toNat_of_nonneg (by first | omega | (show i < 2; omega))).symm (by first | omega | (show i < 2; omega)) foc3 (Reads.sl _ _ _) Tryz.runUnderlying59 Tryz.sizeOf9) rfl (fun _ _ _ _ h=>h) ?_)
   refine aV 3 15 rfl rfl (zac rfl) (t0_ (t0_ (t0_ (t0_ (t0_ (t0_ (t0_ eR))))))) (zaz rfl rfl (by first | omega | (show i < 2; omega)) foc3 (Reads.sl _ _ _) rfl rfl Tryz.isAgg9) rfl <| aN 4 31 rfl rfl (zah rfl) rfl <| aN 5 63 rfl rfl (zah rfl) rfl ?_
   first | (refine za9 6 127 rfl (by kernel_rfl) rfl (by kernel_rfl) (by kernel_rfl) (zac rfl) (t0_ (t0_ (t0_ (t0_ (t0_ (t0_ (t0_ eR))))))) (zal rfl rfl rfl (by first | omega | (show i < 2; omega)) foc0 (Reads.sl _ _ _) Tryz.runUnderlying59 Tryz.sizeOf9) rfl (fun _ _ _ _ h=>h) ?_) | (refine za9 6 127 rfl (by kernel_rfl) rfl (by kernel_rfl) (by kernel_rfl) (zac rfl) (t0_ (t0_ (t0_ (t0_ (t0_ (t0_ (t0_ eR))))))) (zal rfl rfl (Int.toNat_of_nonneg (by first | omega | (show i < 2; omega))).symm (by first | omega | (show i < 2; omega)) foc0 (Reads.sl _ _ _) Tryz.runUnderlying59 Tryz.sizeOf9) rfl (fun _ _ _ _ h=>h) ?_)
   refine aV 7 255 rfl rfl (zac rfl) (t0_ (t0_ (t0_ (t0_ (t0_ (t0_ (t0_ eR))))))) (zaz rfl rfl (by first | omega | (show i < 2; omega)) foc0 (Reads.sl _ _ _) rfl rfl Tryz.isAgg9) rfl <| aN 8 511 rfl rfl (zdo rfl rfl Tryz.underlying9) rfl <| aD ?_
   first | (refine zbf rfl (decide_eq_false (by simp)) ?_) | (refine zbf rfl (by simp) ?_)
   refine za8 <| zak <| zat <| zai <| oM rfl rfl <| oP (P_add rfl rfl (by first | omega | (show i < 2; omega))) rfl <| oA rfl rfl <| za0 <| za6 (i + 1) (by first | omega | (simp only []; omega)) ?_ (by repeat (first | exact Kp.base | exact Kp.self | refine Kp.cons rfl ?_ | refine Kp.forget rfl ?_)) ?_ (t0_ (t0_ (t0_ (t0_ (t0_ (t0_ (t0_ eR)))))))
   · omega
   · exact ⟨rfl,True.intro⟩
  ·
   refine zbg <| zaw <| zav <| zau <| zat <| zad <| sR <| oA rfl rfl <| nT <| zas <| zbe (X:=Nat) [6,10,11,12,13,14,41,42,43,44,45,46,47,48,49,50,51,52,53,54,55,56,57,58,59,60,61,62,63,64,65,66,67,68,69,70,71,72,73,74,75,76,77,78,79,80,81,82,83,84,85,86,87,88,89,90,91,92,93,94,95,96,97,98,99,100,101,102,103,104,105,106,107,108,109,110,111,112,113,114,115,116,117,118,119,120,121,122,123,124,125] (fun i  => ([(10,.int .i64 (i:Nat))]:Slots)) (fun i R=>R) (fun i  => i≤ns.length) (fun i  => ns.length - i) (0) ?_ ?_ (t0_ (t0_ (t0_ (t0_ (t0_ (t0_ (t0_ eR))))))) ?_
   · exact Nat.zero_le _
   · exact ⟨rfl,True.intro⟩
   ·
    intro i hi
    show CJ _ _ _ _ _ (([(10,.int .i64 (i:Nat))]:Slots) ++ forget _ _) (_)
    refine zad <| sR <| oM rfl rfl <| oM rfl rfl <| oV (V_len rfl foc6 hA Tryz.runUnderlying59) rfl <| oP (P_lss rfl rfl) rfl <| nT ?_
    first | (refine zao rfl (fun hg4 => ?_) (fun hg4 => ?_)) | (refine zap rfl (fun hg4 => ?_) (fun hg4 => ?_)) | (refine zar rfl (fun hg4 => ?_) (fun hg4 => ?_))
    ·
     refine kT <| zad <| zas <| sR <| oM rfl rfl <| oM rfl rfl <| oM rfl rfl ?_
     first | (refine RJ_op rfl (OJ_V (zal rfl rfl rfl (by first | omega | (show i < 2; omega)) foc6 hA Tryz.runUnderlying59 Tryz.sizeOf9) rfl ?_)) | (refine RJ_op rfl (OJ_V (zal rfl rfl (Int.toNat_of_nonneg (by first | omega | (show i < 2; omega))).symm (by first | omega | (show i < 2; omega)) foc6 hA Tryz.runUnderlying59 Tryz.sizeOf9) rfl ?_))
     refine oV (zaz rfl rfl (by first | omega | (show i < 2; omega)) foc6 hA rfl rfl Tryz.isAgg9) rfl <| oO <| zaq (zxr) rfl Tryz.call44 (Dels.cons del4 (Dels.cons del4 Dels.nil)) rfl fun sx hsx=>oM rfl rfl <| oP (za1 rfl rfl) rfl <| oP (za1 rfl rfl) rfl <| oO <| zb1 Tryz.zeroValue98 rfl rfl fun b8=>oO <| zbj rfl rfl foc0 Tryz.sizeOf98 rfl rfl rfl <| oA rfl rfl <| nT <| sR <| oM rfl rfl <| oM rfl rfl <| oM rfl rfl ?_
     first | (refine RJ_op rfl (OJ_V (zal rfl rfl rfl (by first | omega | (show i < 2; omega)) foc9 hA Tryz.runUnderlying59 Tryz.sizeOf9) rfl ?_)) | (refine RJ_op rfl (OJ_V (zal rfl rfl (Int.toNat_of_nonneg (by first | omega | (show i < 2; omega))).symm (by first | omega | (show i < 2; omega)) foc9 hA Tryz.runUnderlying59 Tryz.sizeOf9) rfl ?_))
     refine oV (zaz rfl rfl (by first | omega | (show i < 2; omega)) foc9 hA rfl rfl Tryz.isAgg9) rfl <| oO <| zaq (zv4) rfl Tryz.call45 (Dels.cons del6 (Dels.cons del6 Dels.nil)) rfl fun sy hsy=>oM rfl rfl <| oP (za1 rfl rfl) rfl <| oP (za1 rfl rfl) rfl <| oO <| zb1 Tryz.zeroValue98 rfl rfl fun b10=>oO <| zbj rfl rfl foc0 Tryz.sizeOf98 rfl rfl rfl <| oA rfl rfl <| nT <| zad ?_
     have hsl := Md.st_len (n:=(ns.getD i tyS.dflt)) hO
     refine zai <| oM rfl rfl <| oM rfl rfl <| oP (P_neq rfl rfl) rfl <| oM rfl rfl ?_
     first | (refine zc9 68 false rfl (decide_eq_false (by simp)) (fun hg5B => ?_)) | (refine zc9 68 false rfl (by simp) (fun hg5B => ?_))
     refine gP (zab rfl rfl rfl hg5B) (zaa rfl ⟨_,_,_,Tryz.runUnderlying98,rfl,rfl,Tryz.sizeOf9,rfl⟩) rfl <| gV (zab rfl rfl rfl hg5B) (zag rfl foc3 rfl Tryz.isAgg9) rfl <| gP (zab rfl rfl rfl hg5B) (zaa rfl ⟨_,_,_,Tryz.runUnderlying98,rfl,rfl,Tryz.sizeOf9,rfl⟩) rfl <| gV (zab rfl rfl rfl hg5B) (zag rfl foc0 rfl Tryz.isAgg9) rfl <| gP (zab rfl rfl rfl hg5B) (zdo rfl rfl Tryz.underlying9) rfl <| oP (za5 rfl hg5B rfl) rfl <| oM rfl rfl ?_
     first | (refine zc9 75 false rfl (decide_eq_false (by simp)) (fun hg6B => ?_)) | (refine zc9 75 false rfl (by simp) (fun hg6B => ?_))
     refine gP (zab rfl rfl rfl hg6B) (zaa rfl ⟨_,_,_,Tryz.runUnderlying98,rfl,rfl,Tryz.sizeOf4,rfl⟩) rfl <| gV (zab rfl rfl rfl hg6B) (zag rfl foc3 rfl Tryz.isAgg4) rfl <| gP (zab rfl rfl rfl hg6B) (zaa rfl ⟨_,_,_,Tryz.runUnderlying98,rfl,rfl,Tryz.sizeOf4,rfl⟩) rfl <| gV (zab rfl rfl rfl hg6B) (zag rfl foc0 rfl Tryz.isAgg4) rfl <| gP (zab rfl rfl rfl hg6B) (zp9 rfl rfl Tryz.underlying4) rfl <| oP (za5 rfl hg6B rfl) rfl <| oM rfl rfl ?_
     first | (refine zc9 82 false rfl (decide_eq_false (by simp)) (fun hg7B => ?_)) | (refine zc9 82 false rfl (by simp) (fun hg7B => ?_))
     refine gP (zab rfl rfl rfl hg7B) (zaa rfl ⟨_,_,_,Tryz.runUnderlying98,rfl,rfl,Tryz.sizeOf4,rfl⟩) rfl <| gV (zab rfl rfl rfl hg7B) (zag rfl foc3 rfl Tryz.isAgg4) rfl <| gP (zab rfl rfl rfl hg7B) (zaa rfl ⟨_,_,_,Tryz.runUnderlying98,rfl,rfl,Tryz.sizeOf4,rfl⟩) rfl <| gV (zab rfl rfl rfl hg7B) (zag rfl foc0 rfl Tryz.isAgg4) rfl <| gP (zab rfl rfl rfl hg7B) (zp9 rfl rfl Tryz.underlying4) rfl <| oP (za5 rfl hg7B rfl) rfl <| oM rfl rfl ?_
     first | (refine zc9 89 false rfl (decide_eq_false (by simp)) (fun hg8B => ?_)) | (refine zc9 89 false rfl (by simp) (fun hg8B => ?_))
     refine gP (zab rfl rfl rfl hg8B) (zaa rfl ⟨_,_,_,Tryz.runUnderlying98,rfl,rfl,Tryz.sizeOf4,rfl⟩) rfl <| gV (zab rfl rfl rfl hg8B) (zag rfl foc3 rfl Tryz.isAgg4) rfl <| gP (zab rfl rfl rfl hg8B) (zaa rfl ⟨_,_,_,Tryz.runUnderlying98,rfl,rfl,Tryz.sizeOf4,rfl⟩) rfl <| gV (zab rfl rfl rfl hg8B) (zag rfl foc0 rfl Tryz.isAgg4) rfl <| gP (zab rfl rfl rfl hg8B) (zp9 rfl rfl Tryz.underlying4) rfl <| oP (za5 rfl hg8B rfl) rfl <| oM rfl rfl ?_
     first | (refine zc9 96 false rfl (decide_eq_false (by simp)) (fun hg9B => ?_)) | (refine zc9 96 false rfl (by simp) (fun hg9B => ?_))
     refine gP (zab rfl rfl rfl hg9B) (zaa rfl ⟨_,_,_,Tryz.runUnderlying98,rfl,rfl,Tryz.sizeOf3,rfl⟩) rfl <| gV (zab rfl rfl rfl hg9B) (zag rfl foc3 rfl Tryz.isAgg3) rfl <| gP (zab rfl rfl rfl hg9B) (zaa rfl ⟨_,_,_,Tryz.runUnderlying98,rfl,rfl,Tryz.sizeOf3,rfl⟩) rfl <| gV (zab rfl rfl rfl hg9B) (zag rfl foc0 rfl Tryz.isAgg3) rfl <| gP (zab rfl rfl rfl hg9B) (P_neq rfl rfl) rfl <| oP (za5 rfl hg9B rfl) rfl <| oM rfl rfl ?_
     first | (refine zc9 103 false rfl (decide_eq_false (by simp)) (fun hg10B => ?_)) | (refine zc9 103 false rfl (by simp) (fun hg10B => ?_))
     refine gP (zab rfl rfl rfl hg10B) (zaa rfl ⟨_,_,_,Tryz.runUnderlying98,rfl,rfl,Tryz.sizeOf3,rfl⟩) rfl <| gV (zab rfl rfl rfl hg10B) (zag rfl foc3 rfl Tryz.isAgg3) rfl <| gP (zab rfl rfl rfl hg10B) (zaa rfl ⟨_,_,_,Tryz.runUnderlying98,rfl,rfl,Tryz.sizeOf3,rfl⟩) rfl <| gV (zab rfl rfl rfl hg10B) (zag rfl foc0 rfl Tryz.isAgg3) rfl <| gP (zab rfl rfl rfl hg10B) (P_neq rfl rfl) rfl <| oP (za5 rfl hg10B rfl) rfl <| oM rfl rfl ?_
     first | (refine zc9 110 false rfl (decide_eq_false (by simp)) (fun hg11B => ?_)) | (refine zc9 110 false rfl (by simp) (fun hg11B => ?_))
     refine gP (zab rfl rfl rfl hg11B) (zaa rfl ⟨_,_,_,Tryz.runUnderlying98,rfl,rfl,Tryz.sizeOf30,rfl⟩) rfl <| gV (zab rfl rfl rfl hg11B) (zag rfl foc3 rfl Tryz.isAgg30) rfl <| gP (zab rfl rfl rfl hg11B) (zaa rfl ⟨_,_,_,Tryz.runUnderlying98,rfl,rfl,Tryz.sizeOf30,rfl⟩) rfl <| gV (zab rfl rfl rfl hg11B) (zag rfl foc0 rfl Tryz.isAgg30) rfl <| RJ_gy (zab rfl rfl rfl hg11B) <| zaq (zf6 (Reads.sl _ _ _) hsy.1 (zqm (by omega))) rfl Tryz.call46 (Dels.cons del4 (Dels.cons del2 Dels.nil)) rfl fun _ hc11=>gP (zab rfl rfl rfl hg11B) (P_not rfl) rfl <| oP (za5 rfl hg11B rfl) rfl <| oM rfl rfl ?_
     first | (refine zc9 118 false rfl (decide_eq_false (by simp)) (fun hg12B => ?_)) | (refine zc9 118 false rfl (by simp) (fun hg12B => ?_))
     refine gP (zab rfl rfl rfl hg12B) (zaa rfl ⟨_,_,_,Tryz.runUnderlying98,rfl,rfl,Tryz.sizeOf30,rfl⟩) rfl <| gV (zab rfl rfl rfl hg12B) (zag rfl foc4 rfl Tryz.isAgg30) rfl <| gP (zab rfl rfl rfl hg12B) (zaa rfl ⟨_,_,_,Tryz.runUnderlying98,rfl,rfl,Tryz.sizeOf30,rfl⟩) rfl <| gV (zab rfl rfl rfl hg12B) (zag rfl foc2 rfl Tryz.isAgg30) rfl <| RJ_gy (zab rfl rfl rfl hg12B) <| zaq (zf6 (Reads.sl _ _ _) hsy.2 (zqm (by omega))) rfl Tryz.call46 (Dels.cons del5 (Dels.cons del1 Dels.nil)) rfl fun _ hc12=>gP (zab rfl rfl rfl hg12B) (P_not rfl) rfl <| oP (za5 rfl hg12B rfl) rfl <| nT ?_
     first | (refine zbf rfl (decide_eq_false (by simp)) ?_) | (refine zbf rfl (by simp) ?_)
     refine za8 <| zak <| zat <| zai <| oM rfl rfl <| oP (P_add rfl rfl (by first | omega | (show i < 2; omega))) rfl <| oA rfl rfl <| za0 <| za6 (i + 1) (by first | omega | (simp only []; omega)) ?_ (by repeat (first | exact Kp.base | exact Kp.self | refine Kp.cons rfl ?_ | refine Kp.forget rfl ?_)) ?_ (t8_ (t4_ (t1_ (t6_ (t4_ (t4_ (t4_ (eD (eD (eD (eD eR)))))))))))
     · omega
     · exact ⟨rfl,True.intro⟩
    ·
     refine zbg <| zaw <| zav <| zau <| zat <| zad <| zad <| zbd (Ent.trans (t4_ (t4_ eR)) (zgy hbd)) <| zbd (Ent.trans (t2_ (t2_ eR)) (zg3 hbd)) <| zai <| oA rfl rfl <| nT <| zas <| zbe (X:=Nat × Md) [6,15,16,126,127,128,129,130,131,132,133,134,135,136,137,138,139,140,141,142,143,144] (fun ⟨i,m1⟩  => ([(15,.int .i64 (i:Nat))]:Slots)) (fun ⟨i,m1⟩ R=>MapP b m1::RefP b2 m1::R) (fun ⟨i,m1⟩  => i≤2∧m1.cl=m.cl + 12 * i) (fun ⟨i,m1⟩  => 2 - i) ⟨0,m⟩ ?_ ?_ (t1_ (t0_ (t0_ (t0_ (t0_ eR))))) ?_
     · exact ⟨Nat.zero_le _,rfl⟩
     · exact ⟨rfl,True.intro⟩
     ·
      rintro ⟨i,m1⟩ ⟨hi,hm1⟩
      show CJ _ _ _ _ _ (([(15,.int .i64 (i:Nat))]:Slots) ++ forget _ _) (MapP b m1::RefP b2 m1::_)
      refine zad <| sR <| oM rfl rfl <| oP (P_lss rfl rfl) rfl <| nT ?_
      first | (refine zao rfl (fun hg14 => ?_) (fun hg14 => ?_)) | (refine zap rfl (fun hg14 => ?_) (fun hg14 => ?_)) | (refine zar rfl (fun hg14 => ?_) (fun hg14 => ?_))
      ·
       refine kT <| zad <| zas <| sR <| oA rfl rfl <| nT <| zas <| zbe (X:=Nat × Md) [6,16,130,131,132,133,134,135,136,137,138,139,140,141,142,143,144] (fun ⟨k,m2⟩  => ([(16,.int .i64 (k:Nat))]:Slots)) (fun ⟨k,m2⟩ R=>MapP b m2::RefP b2 m2::R) (fun ⟨k,m2⟩  => k≤12∧m2.cl=m1.cl + k) (fun ⟨k,m2⟩  => 12 - k) ⟨0,m1⟩ ?_ ?_ (t0_ (t0_ (t0_ (t0_ (t0_ eR))))) ?_
       · exact ⟨Nat.zero_le _,rfl⟩
       · exact ⟨rfl,True.intro⟩
       ·
        rintro ⟨k,m2⟩ ⟨hk,hm2⟩
        show CJ _ _ _ _ _ (([(16,.int .i64 (k:Nat))]:Slots) ++ forget _ _) (MapP b m2::RefP b2 m2::_)
        refine zad <| sR <| oM rfl rfl <| oP (P_lss rfl rfl) rfl <| nT ?_
        first | (refine zao rfl (fun hg15 => ?_) (fun hg15 => ?_)) | (refine zap rfl (fun hg15 => ?_) (fun hg15 => ?_)) | (refine zar rfl (fun hg15 => ?_) (fun hg15 => ?_))
        ·
         refine kT <| zad <| zas <| sR <| oM rfl rfl <| oM rfl rfl <| oO <| za7 rfl (zmf _ _) rfl fun b13=>zcl (Ent.trans (t0_ eR) (zcd (t:=tyS) (m:=2) [nd0,nd1] rfl rfl rfl (by decide))) <| oM rfl rfl <| oV (zal rfl rfl rfl (by show i < 2; omega) foc0 (Reads.sl _ _ _) Tryz.runUnderlying59 Tryz.sizeOf9) rfl <| oV (zaz rfl rfl (by first | omega | (show i < 2; omega)) foc0 (Reads.sl _ _ _) rfl rfl Tryz.isAgg9) rfl <| oM rfl rfl <| oP (zbm rfl (znb _ _)) rfl <| oP (zbm rfl (zlq _ _ _ _ _)) rfl <| oO <| zaq ((zg4 (tv:=s3z) (tbl:=[]) (t:=⟨1,(k:Int),0⟩) (fun h _ => .inl ⟨rfl,rfl⟩) (Nat.zero_le _) (by omega) ⟨by show -9223372036854775808≤(k:Int); omega,by show (k:Int)≤9223372036854775807; omega⟩)) rfl Tryz.call8 (Dels.cons del5 (Dels.cons del1 (Dels.cons del1 Dels.nil))) rfl fun m9 h9=>oP (P_not rfl) rfl <| nT ?_
         first | (refine zbf rfl (decide_eq_false (by simp)) ?_) | (refine zbf rfl (by simp) ?_)
         refine za8 <| zak <| zat <| zai <| oM rfl rfl <| oP (P_add rfl rfl (by first | omega | (show i < 2; omega))) rfl <| oA rfl rfl <| za0 <| za6 ⟨k + 1,m9⟩ (by show 12 - (k + 1) < 12 - k; omega) ?_ (by repeat (first | exact Kp.base | exact Kp.self | refine Kp.cons rfl ?_ | refine Kp.forget rfl ?_)) ?_ (t1_ (t1_ (t2_ (t2_ (t0_ (eD eR))))))
         · exact ⟨by omega,by omega⟩
         · exact ⟨rfl,True.intro⟩
        ·
         refine zbg <| zaw <| zav <| zau <| zak <| zat <| zai <| oM rfl rfl <| oP (P_add rfl rfl (by first | omega | (show i < 2; omega))) rfl <| oA rfl rfl <| za0 <| za6 ⟨i + 1,m2⟩ (by show 2 - (i + 1) < 2 - i; omega) ?_ (by repeat (first | exact Kp.base | exact Kp.self | refine Kp.cons rfl ?_ | refine Kp.forget rfl ?_)) ?_ (t0_ (t0_ (t0_ (t0_ (t0_ eR)))))
         · exact ⟨by omega,by omega⟩
         · exact ⟨rfl,True.intro⟩
      ·
       refine zbg <| zaw <| zav <| zau <| zat <| sR <| oA rfl rfl <| nT <| zaj <| zan (res1 Tryz.results15 rfl) <| CSpec.close m1 ?_ ?_ (t4_ (t0_ (t0_ (eD (eD eR)))))
       · rfl
       ·
        obtain rfl:i=2 := by omega
        omega
end Go.Proofs
set_option linter.unusedSimpArgs false
set_option maxRecDepth 20000
namespace Go.Proofs
open Go.VG
theorem zjt (v0:(Option Addr)) (v1:Nat) (v2:Nat):∀ w,(Instr.build 63 (#[(0,.slice v0 v1 v2)]:Array (Nat × Value))).run Tryz.prog w = .ok (.agg #[.slice v0 v1 v2,.int .i64 0]) w := fun w=>by kernel_rfl
theorem zzr (v:Int) {n:Int} (hn:1≤n) : -n < v.tmod n∧v.tmod n < n := by
  have h4 := Int.natAbs_tmod v n
  have h5 := Nat.mod_lt v.natAbs (show 0 < n.natAbs by omega)
  omega
theorem c_sNew {W:World} {v:Sl3} {L:List Int} {A:HP} (hA:Reads A tyI v.v L) (hL:L.length≤9223372036854775807) :
    CSpec Tryz.prog W 6 [v.v] [A] (fun x:Nat × Value=>ptr x.1 0) (fun x => ∃ L2:List Int,L2.length≤1000∧Reads A tyI x.2 L2) (fun x F=>blk x.1 63 [x.2,.int .i64 0]::A::F) := by
 refine CSpec.of_body Tryz.func6 rfl Tryz.ntmps6 rfl fun F => ?_
 show CJ _ _ _ _ _ _ (_::F)
 refine sR <| oA rfl rfl <| nT <| zad <| sR <| oM rfl rfl <| oV (V_len rfl foc0 hA Tryz.runUnderlying22) rfl <| oP (P_gtr rfl rfl) rfl <| nT ?_
 first | (refine zao rfl (fun hg1 => ?_) (fun hg1 => ?_)) | (refine zap rfl (fun hg1 => ?_) (fun hg1 => ?_)) | (refine zar rfl (fun hg1 => ?_) (fun hg1 => ?_))
 ·
  refine zai <| oM rfl rfl <| oV (zii (l:=0) (h:=1000) rfl foc0 hA rfl ⟨_,rfl⟩ (by omega) (by omega) Tryz.underlying22 Tryz.sizeOf3) rfl <| oA rfl rfl <| nT <| zad <| zba (zpc (Reads.sliceV (t:=tyI) (l:=0) (h:=1000) hA (by omega) (by omega)) del0) fun hv2 => ?_
  obtain ⟨v2,hv2⟩ := hv2
  rw [hv2]
  refine zai <| oM rfl rfl <| oP (zbm rfl (zjt _ _ _)) rfl <| oO <| O_box rfl rfl rfl fun b1=>oA rfl rfl <| nT <| zaj <| zan (res1 Tryz.results6 rfl) <| CSpec.close ⟨b1,v2.v⟩ ?_ ?_ (t0_ (t0_ eR))
  · rfl
  · exact ⟨_,by simp; omega,hv2 ▸ (Reads.sliceV (t:=tyI) (l:=0) (h:=1000) hA (by omega) (by omega))⟩
 ·
  refine kT <| sR <| oM rfl rfl <| oP (zbm rfl (zjt _ _ _)) rfl <| oO <| O_box rfl rfl rfl fun b2=>oA rfl rfl <| nT <| zaj <| zan (res1 Tryz.results6 rfl) <| CSpec.close ⟨b2,v.v⟩ ?_ ?_ (t0_ (t0_ eR))
  · rfl
  · exact ⟨L,by omega,hA⟩
theorem c_sRaw {W:World} {sb:Nat} {a:Int} {v:Value} {L:List Int} {A:HP} (hA:Reads A tyI v L) (hL:L.length≤1000) (ha:0≤a∧a≤1000) :
    CSpec Tryz.prog W 38 [ptr sb 0] [blk sb 63 [v,.int .i64 a],A] (fun x:Int × Int => .int .i64 x.1) (fun x=>0≤x.2∧x.2≤1000) (fun x F=>blk sb 63 [v,.int .i64 x.2]::A::F) := by
 refine CSpec.of_body Tryz.func38 rfl Tryz.ntmps38 rfl fun F => ?_
 show CJ _ _ _ _ _ _ (_::_::F)
 refine sR <| oA rfl rfl <| nT <| zad <| zad <| za4 0 (by kernel_rfl) rfl <| aN 0 1 rfl rfl (zah rfl) rfl <| aN 1 3 rfl rfl (zaf rfl) rfl <| aN 2 7 rfl rfl (zaa rfl ⟨_,_,_,Tryz.runUnderlying63,rfl,rfl,Tryz.sizeOf3,rfl⟩) rfl <| aV 3 15 rfl rfl (zac rfl) (t0_ (t0_ eR)) (zag rfl foc0 rfl Tryz.isAgg3) rfl <| aN 4 31 rfl rfl (zah rfl) rfl <| aN 5 63 rfl rfl (zaf rfl) rfl <| aN 6 127 rfl rfl (zaa rfl ⟨_,_,_,Tryz.runUnderlying63,rfl,rfl,Tryz.sizeOf22,rfl⟩) rfl <| aV 7 255 rfl rfl (zac rfl) (t0_ (t0_ eR)) (zag rfl foc0 rfl Tryz.isAgg22) rfl <| aV 8 511 rfl rfl (zac rfl) (t0_ (t0_ eR)) (V_len rfl foc1 hA Tryz.runUnderlying22) rfl <| aN 9 1023 rfl rfl (P_geq rfl rfl) rfl <| aD ?_
 first | (refine zao rfl (fun hg1 => ?_) (fun hg1 => ?_)) | (refine zap rfl (fun hg1 => ?_) (fun hg1 => ?_)) | (refine zar rfl (fun hg1 => ?_) (fun hg1 => ?_))
 ·
  refine sR <| oA rfl rfl <| nT <| zaj <| zae <| zan (res1 Tryz.results38 rfl) <| CSpec.close ⟨0,a⟩ ?_ ?_ (t0_ (t0_ eR))
  · rfl
  · exact ha
 ·
  refine kT <| sR <| oM rfl rfl <| oP (zaf rfl) rfl <| oP (zaa rfl ⟨_,_,_,Tryz.runUnderlying63,rfl,rfl,Tryz.sizeOf3,rfl⟩) rfl <| oV (zag rfl foc0 rfl Tryz.isAgg3) rfl <| oP (P_add rfl rfl (by omega)) rfl <| oP (zaf rfl) rfl <| oP (zaa rfl ⟨_,_,_,Tryz.runUnderlying63,rfl,rfl,Tryz.sizeOf3,rfl⟩) rfl <| oO <| zbh rfl rfl foc0 rfl rfl Tryz.sizeOf3 <| nT <| zad <| za4 0 (by kernel_rfl) rfl <| aN 0 1 rfl rfl (zah rfl) rfl <| aN 1 3 rfl rfl (zaf rfl) rfl <| aN 2 7 rfl rfl (zaa rfl ⟨_,_,_,Tryz.runUnderlying63,rfl,rfl,Tryz.sizeOf22,rfl⟩) rfl <| aV 3 15 rfl rfl (zac rfl) (t0_ (t0_ eR)) (zag rfl foc0 rfl Tryz.isAgg22) rfl <| aN 4 31 rfl rfl (zah rfl) rfl <| aN 5 63 rfl rfl (zaf rfl) rfl <| aN 6 127 rfl rfl (zaa rfl ⟨_,_,_,Tryz.runUnderlying63,rfl,rfl,Tryz.sizeOf3,rfl⟩) rfl <| aV 7 255 rfl rfl (zac rfl) (t0_ (t0_ eR)) (zag rfl foc0 rfl Tryz.isAgg3) rfl <| aN 8 511 rfl rfl (P_sub rfl rfl (by omega)) rfl <| aV 9 1023 rfl rfl (zac rfl) (t0_ (t0_ eR)) (zal rfl rfl (Int.toNat_of_nonneg (by omega)).symm (by omega) foc1 hA Tryz.runUnderlying22 Tryz.sizeOf3) rfl <| aV 10 2047 rfl rfl (zac rfl) (t0_ (t0_ eR)) (zaz rfl rfl (by omega) foc1 hA rfl rfl Tryz.isAgg3) rfl <| aN 11 4095 rfl rfl (zbc rfl) rfl <| aD <| zaj <| zan (res1 Tryz.results38 rfl) ?_
  refine CSpec.close ⟨L.getD (a + 1 - 1).toNat tyI.dflt,a + 1⟩ ?_ ?_ (t0_ (t0_ eR))
  · rfl
  ·
   show 0≤a + 1∧a + 1≤1000
   omega
theorem c_sN {W:World} {sb:Nat} {a:Int} {v:Value} {L:List Int} {A:HP} (hA:Reads A tyI v L) (hL:L.length≤1000) (ha:0≤a∧a≤1000) {n:Int} (hn : -1000000000≤n∧n≤1000000000) :
    CSpec Tryz.prog W 10 [ptr sb 0,.int .i64 n] [blk sb 63 [v,.int .i64 a],A] (fun x:Int × Int => .int .i64 x.1) (fun x=>(0≤x.2∧x.2≤1000)∧(0≤x.1∧x.1≤1000000000)∧(1≤n→x.1 < n)) (fun x F=>blk sb 63 [v,.int .i64 x.2]::A::F) := by
 refine CSpec.of_body Tryz.func10 rfl Tryz.ntmps10 rfl fun F => ?_
 show CJ _ _ _ _ _ _ (_::_::F)
 refine sR <| oA rfl rfl <| nT <| zad <| sR <| oM rfl rfl <| oP (P_lss rfl rfl) rfl <| nT ?_
 first | (refine zao rfl (fun hg1 => ?_) (fun hg1 => ?_)) | (refine zap rfl (fun hg1 => ?_) (fun hg1 => ?_)) | (refine zar rfl (fun hg1 => ?_) (fun hg1 => ?_))
 ·
  refine sR <| oA rfl rfl <| nT <| zaj <| zae <| zan (res1 Tryz.results10 rfl) <| CSpec.close ⟨0,a⟩ ?_ ?_ (t0_ (t0_ eR))
  · rfl
  · exact ⟨ha,⟨Int.le_refl _,by show (0:Int)≤1000000000; omega⟩,fun h=>by show (0:Int) < n; omega⟩
 ·
  refine kT <| sR <| oM rfl rfl <| oO <| zaq ((c_sRaw hA hL ha)) rfl Tryz.call38 (Dels.cons del0 (Dels.cons del0 Dels.nil)) rfl fun x9 h9=>oM rfl rfl <| oP (P_remT rfl rfl (by omega)) rfl <| oA rfl rfl <| nT <| zad <| zad ?_
  have htm := zzr x9.1 (n:=n) (by omega)
  refine zai <| oM rfl rfl <| oP (P_lss rfl rfl) rfl <| nT ?_
  first | (refine zao rfl (fun hg2 => ?_) (fun hg2 => ?_)) | (refine zap rfl (fun hg2 => ?_) (fun hg2 => ?_)) | (refine zar rfl (fun hg2 => ?_) (fun hg2 => ?_))
  ·
   refine zai <| oM rfl rfl <| oM rfl rfl <| oP (P_add rfl rfl (by omega)) rfl <| oA rfl rfl <| nT <| sR <| oM rfl rfl <| oA rfl rfl <| nT <| zaj <| zan (res1 Tryz.results10 rfl) <| CSpec.close ⟨x9.1.tmod n + n,x9.2⟩ ?_ ?_ (t0_ (t0_ eR))
   · rfl
   ·
    refine ⟨h9,⟨?_,?_⟩,fun h => ?_⟩
    · show 0≤x9.1.tmod n + n; omega
    · show x9.1.tmod n + n≤1000000000; omega
    · show x9.1.tmod n + n < n; omega
  ·
   refine kT <| sR <| oM rfl rfl <| oA rfl rfl <| nT <| zaj <| zan (res1 Tryz.results10 rfl) <| CSpec.close ⟨x9.1.tmod n,x9.2⟩ ?_ ?_ (t0_ (t0_ eR))
   · rfl
   ·
    refine ⟨h9,⟨?_,?_⟩,fun h => ?_⟩
    · show 0≤x9.1.tmod n; omega
    · show x9.1.tmod n≤1000000000; omega
    · show x9.1.tmod n < n; omega
theorem zro {W:World} {sb:Nat} {a:Int} {v:Value} {L:List Int} {A:HP} (hA:Reads A tyI v L) (hL:L.length≤1000) (ha:0≤a∧a≤1000) {lo hi:Int} (hr : -1000000≤lo∧lo≤hi∧hi≤1000000) :
    CSpec Tryz.prog W 11 [ptr sb 0,.int .i64 lo,.int .i64 hi] [blk sb 63 [v,.int .i64 a],A] (fun x:Int × Int => .int .i64 x.1) (fun x=>(0≤x.2∧x.2≤1000)∧lo≤x.1∧x.1≤hi) (fun x F=>blk sb 63 [v,.int .i64 x.2]::A::F) := by
 refine CSpec.of_body Tryz.func11 rfl Tryz.ntmps11 rfl fun F => ?_
 show CJ _ _ _ _ _ _ (_::_::F)
 refine sR <| oA rfl rfl <| nT <| sR <| oM rfl rfl <| oM rfl rfl <| oM rfl rfl <| oM rfl rfl <| oP (P_sub rfl rfl (by omega)) rfl <| oP (P_add rfl rfl (by omega)) rfl <| oO <| zaq ((c_sN hA hL ha (n:=(hi - lo + 1)) (by omega))) rfl Tryz.call10 (Dels.cons del0 (Dels.cons del0 Dels.nil)) rfl fun x9 h9 => ?_
 have h8 := h9.2.2 (by omega)
 have h7 := h9.2.1
 refine oP (P_add rfl rfl (by omega)) rfl <| oA rfl rfl <| nT <| zaj <| zan (res1 Tryz.results11 rfl) <| CSpec.close ⟨lo + x9.1,x9.2⟩ ?_ ?_ (t0_ (t0_ eR))
 · rfl
 · exact ⟨h9.1,by show lo≤lo + x9.1; omega,by show lo + x9.1≤hi; omega⟩
theorem zs8 {W:World} {sb:Nat} {a:Int} {v:Value} {L:List Int} {A:HP} (hA:Reads A tyI v L) (hL:L.length≤1000) (ha:0≤a∧a≤1000) {P:HP} {pv:Value} {ps:List Int} (hP:Reads P tyI pv ps) (hp:1≤ps.length∧ps.length≤1000) :
    CSpec Tryz.prog W 47 [ptr sb 0,pv] [blk sb 63 [v,.int .i64 a],A,P] (fun x:Int × Int => .int .i64 x.1) (fun x=>0≤x.2∧x.2≤1000) (fun x F=>blk sb 63 [v,.int .i64 x.2]::A::P::F) := by
 refine CSpec.of_body Tryz.func47 rfl Tryz.ntmps47 rfl fun F => ?_
 show CJ _ _ _ _ _ _ (_::_::_::F)
 refine sR <| oA rfl rfl <| nT <| sR <| oM rfl rfl <| oM rfl rfl <| oM rfl rfl <| oV (V_len rfl foc2 hP Tryz.runUnderlying22) rfl <| oO <| zaq ((c_sN hA hL ha (n:=((ps.length:Nat):Int)) (by omega))) rfl Tryz.call10 (Dels.cons del0 (Dels.cons del0 Dels.nil)) rfl fun x9 h9 => ?_
 have h8 := h9.2.2 (by omega)
 have h7 := h9.2.1
 refine oV (zal rfl rfl (Int.toNat_of_nonneg (by omega)).symm (by omega) foc2 hP Tryz.runUnderlying22 Tryz.sizeOf3) rfl <| oV (zaz rfl rfl (by omega) foc2 hP rfl rfl Tryz.isAgg3) rfl <| oA rfl rfl <| nT <| zaj <| zan (res1 Tryz.results47 rfl) <| CSpec.close ⟨ps.getD x9.1.toNat tyI.dflt,x9.2⟩ ?_ ?_ (t0_ (t0_ (t0_ eR)))
 · rfl
 · exact h9.1
theorem zl9 {W:World} {sb:Nat} {a:Int} {v:Value} {L:List Int} {A:HP} (hA:Reads A tyI v L) (hL:L.length≤1000) (ha:0≤a∧a≤1000) {P:HP} {pv:Value} {ps:List ByteArray} (hP:Reads P tyS pv ps) (hp:1≤ps.length∧ps.length≤1000) :
    CSpec Tryz.prog W 48 [ptr sb 0,pv] [blk sb 63 [v,.int .i64 a],A,P] (fun x:ByteArray × Int => .string x.1) (fun x=>0≤x.2∧x.2≤1000) (fun x F=>blk sb 63 [v,.int .i64 x.2]::A::P::F) := by
 refine CSpec.of_body Tryz.func48 rfl Tryz.ntmps48 rfl fun F => ?_
 show CJ _ _ _ _ _ _ (_::_::_::F)
 refine sR <| oA rfl rfl <| nT <| sR <| oM rfl rfl <| oM rfl rfl <| oM rfl rfl <| oV (V_len rfl foc2 hP Tryz.runUnderlying59) rfl <| oO <| zaq ((c_sN hA hL ha (n:=((ps.length:Nat):Int)) (by omega))) rfl Tryz.call10 (Dels.cons del0 (Dels.cons del0 Dels.nil)) rfl fun x9 h9 => ?_
 have h8 := h9.2.2 (by omega)
 have h7 := h9.2.1
 refine oV (zal rfl rfl (Int.toNat_of_nonneg (by omega)).symm (by omega) foc2 hP Tryz.runUnderlying59 Tryz.sizeOf9) rfl <| oV (zaz rfl rfl (by omega) foc2 hP rfl rfl Tryz.isAgg9) rfl <| oA rfl rfl <| nT <| zaj <| zan (res1 Tryz.results48 rfl) <| CSpec.close ⟨ps.getD x9.1.toNat tyS.dflt,x9.2⟩ ?_ ?_ (t0_ (t0_ (t0_ eR)))
 · rfl
 · exact h9.1
end Go.Proofs
